/-
  A region that draws its order, second part.
-/
import Derived.Test.YtplhdlbnneoobaaGreatB4
import Derived.Test.YtplhdlbnneoobaaGreatB1
import Derived.IntWalk
set_option linter.unusedSimpArgs false
set_option linter.unusedVariables false
set_option linter.unnecessarySimpa false
namespace Go.c6
open Go.RowKit
section
variable {C:Cl} {c4:List Nat} {ρ:AU->AV}
theorem Af1 {op:EH} (o o':AJ) (ht:H4 op=false) (hr:ZP op=true->o.m7 c4=o'.m7 c4) (k7 : ∀ s,FJ op=some s->o s=o' s):e9 C c4 ρ o op=e9 C c4 ρ o' op:=by
 cases op with
 | mi s n x v =>
  have h1:=k7 s rfl;have h2 : ∀ t i j vs,(o.jm s t i j vs).map (λ q=>CI.o7 s (q s))=(o'.jm s t i j vs).map (λ q=>CI.o7 s (q s)):=λ t i j vs=>by
   have hg:o.get s t=o'.get s t:=by unfold AJ.get;rw[h1]
   unfold AJ.jm;rw[hg];cases o'.get s t with
   | none=>rfl
   | some b =>
    simp only;cases b.es[i]? with
    | none=>rfl
    | some cs =>
     simp only;split
     ·simp only[Option.map_some,AJ.j6,h1]
     ·rfl
  simp only[e9,h2]
 | ld agg n x=>have:=hr rfl;simp only[e9,this]
 | call f xs=>have:=hr rfl;simp only[e9,this]
 | o5 s f xs=>have:=hr rfl;simp only[e9,this]
 | aq s f xs=>have h1:=k7 s rfl;simp only[e9,h1]
 | st=>simp [H4]at ht
 | app=>simp [H4]at ht
 | g6=>simp [H4]at ht
 | m8=>simp [H4]at ht
 | _=>rfl
theorem tF {op:EH} {o:AJ} {E:CI} (h:e9 C c4 ρ o op=some E) {s:Nat} (hs:FJ op=some s):(∃ b v,E = .new s b v\/E = .vm s b v) \/ ∃ x v,E = .o7 s x\/E = .tp s x v:=by
 cases op with
 | mi s' n x v =>
  simp only[FJ,Option.some.injEq]at hs;subst hs;simp only[e9]at h;split at h
  ·split at h
   ·simp only[Option.map_eq_some_iff]at h
    obtain ⟨q,_,rfl⟩:=h;exact .inr ⟨_,.any,.inl rfl⟩
   ·cases h
  ·cases h
 | o5 s' f xs =>
  simp only[FJ,Option.some.injEq]at hs;subst hs;simp only[e9]at h;split at h
  ·simp only[Option.map_eq_some_iff]at h
   obtain ⟨r,_,rfl⟩:=h;exact .inl ⟨_,_,.inl rfl⟩
  ·cases h
 | aq s' f xs =>
  simp only[FJ,Option.some.injEq]at hs;subst hs;simp only[e9,Option.map_eq_some_iff]at h;obtain ⟨p,_,rfl⟩:=h;exact .inr ⟨_,_,.inr rfl⟩
 | y8 s' z =>
  simp only[FJ,Option.some.injEq]at hs;subst hs;simp only[e9,Option.some.injEq]at h;exact .inl ⟨_,_,.inr h.symm⟩
 | box s' x =>
  simp only[FJ,Option.some.injEq]at hs;subst hs;simp only[e9]at h;split at h
  ·simp only[Option.some.injEq]at h;exact .inl ⟨_,_,.inl h.symm⟩
  ·cases h
 | alloc s' z =>
  simp only[FJ,Option.some.injEq]at hs;subst hs;simp only[e9,Option.some.injEq]at h;exact .inl ⟨_,_,.inl h.symm⟩
 | b7 s' b8 ps =>
  simp only[FJ,Option.some.injEq]at hs;subst hs;simp only[e9]at h;split at h
  ·split at h
   ·simp only[Option.some.injEq]at h;exact .inl ⟨_,_,.inl h.symm⟩
   ·cases h
  ·cases h
 | mk s' b8 bytes z l c =>
  simp only[FJ,Option.some.injEq]at hs;subst hs;simp only[e9]at h;split at h
  ·split at h
   ·simp only[Option.some.injEq]at h;exact .inl ⟨_,_,.inl h.symm⟩
   ·cases h
  ·cases h
 | _=>simp [FJ]at hs
theorem lT {α:Type} {x:Option α} {f:α->AV} {E:CI} (h:x.map (λ y=>CI.val (f y))=some E) : ∃ v,E = .val v:=by
 cases x with
 | none=>cases h
 | some y=>simp only[Option.map_some,Option.some.injEq]at h;exact ⟨_,h.symm⟩
theorem tG {op:EH} {o:AJ} {E:CI} (h:e9 C c4 ρ o op=some E) (ht:H4 op=false) (hs:FJ op=none) : ∃ v,E = .val v:=by
 cases op<;>first|(simp [H4]at ht;done)|(simp [FJ]at hs;done)|skip
 all_goals simp only[e9]at h
 all_goals
  first
   | (simp only[Option.some.injEq]at h;exact ⟨_,h.symm⟩)
   | exact lT (f:=id) h
   | skip
 all_goals (repeat' split at h)
 all_goals
  first
   | (cases h;done)
   | (simp only[Option.some.injEq]at h;exact ⟨_,h.symm⟩)
   | exact lT (f:=id) h
   | exact lT (f:=AV.agg) h
   | (simp only[Option.map_eq_some_iff]at h;obtain ⟨cs,_,rfl⟩:=h;exact ⟨_,rfl⟩)
theorem VB {x:AI} {r:EJ} {s s':St} (h:VX C x r s s') (ht:H4 x.op=false) (hs:FJ x.op=none) (o:AJ):r.own o=o:=by
 unfold EJ.own;cases hg:r.g with
 | false=>rfl
 | true =>
  obtain ⟨v,hv⟩:=tG (h.E hg) ht hs;simp [hv,CI.x6]
theorem mT {x:AI} {r:EJ} {s s':St} (h:VX C x r s s') {q:Nat} (hs:FJ x.op=some q):(∀ o,r.own o=o) \/ ∃ F:CF->CF,∀ o:AJ,r.own o=o.put q (F (o q)):=by
 unfold EJ.own;cases hg:r.g with
 | false=>exact .inl λ_=>rfl
 | true =>
  rcases tF (h.E hg) hs with ⟨b,v,hv|hv⟩|⟨x,v,hv|hv⟩
  ·exact .inr ⟨λ q=>q.new b,λ o=>by simp [hv,CI.x6]⟩
  ·exact .inr ⟨λ q=>q.new b,λ o=>by simp [hv,CI.x6]⟩
  ·exact .inr ⟨λ_=>x,λ o=>by simp [hv,CI.x6]⟩
  ·exact .inr ⟨λ_=>x,λ o=>by simp [hv,CI.x6]⟩
theorem Ol {x:AI} {r:EJ} {s s':St} (h:VX C x r s s') {q:Nat} (hs:FJ x.op=some q) {p:Nat} (hp:p≠q) (o:AJ):r.own o p=o p:=by
 rcases mT h hs with h1|⟨b,h1⟩
 ·rw[h1]
 ·rw[h1];simp [AJ.put,hp]
theorem Ns (b:Array Nat) (i j:Nat):JS b i j=JS b j i:=by unfold JS;rw[Nat.max_comm,Nat.min_comm]
theorem UK {ops:Array Oper} {l:List AI} (h:UJ ops l=true) {i j:Nat} {x y:AI} (hx:l[i]? = some x) (hy:l[j]? = some y) (l9:i≠j) :
  (JS (Region.before ops) i j=true\/((∀ t,y.dst=some t->t ∉ WR x)/\(H4 x.op=false\/LO y.op=false)/\(ZP x.op=true -> ∀ s,FJ y.op=some s->s∈x.c4))) /\
  (JS (Region.before ops) i j=true \/ ∀ s s',FJ x.op=some s->FJ y.op=some s'->s≠s'):=by
 simp only[UJ,Bool.and_eq_true]at h;have h1:=h.1.1;rw[List.all_eq_true]at h1;have Ba:(x,i)∈l.zipIdx:=List.mem_zipIdx_iff_getElem?.2 hx;have hym:(y,j)∈l.zipIdx:=List.mem_zipIdx_iff_getElem?.2 hy;have h2:=h1 (x,i) Ba;simp only at h2;rw[List.all_eq_true]at h2;have h3:=h2 (y,j) hym;simp only[Bool.and_eq_true,Bool.or_eq_true,beq_iff_eq,l9,false_or]at h3;obtain ⟨h4,h5⟩:=h3;refine ⟨?_,h5.imp id λ h5 s s' hs po => ?_⟩
 ·unfold Nx at h4
  simp only[Bool.or_eq_true,beq_iff_eq,l9,false_or]at h4;refine h4.imp id λ h6 => ?_
  simp only[Bool.and_eq_true,Bool.or_eq_true,Bool.not_eq_true']at h6;obtain ⟨⟨h7,h8⟩,h9⟩:=h6;refine ⟨λ t ht => ?_,h8,λ hr s hs => ?_⟩
  ·rw[ht]at h7
   simpa using h7
  ·rw[hr,hs]at h9
   simpa using h9
 ·rw[hs,po]at h5
  simpa using h5
structure aG (C:Cl) (ops:Array Oper) (l:List AI) (σ:Nat->St) (rs:List EJ):Prop where
 ok:UJ ops l=true
 len:rs.length=l.length
 fits : ∀ (k:Nat) (x:AI) (r:EJ),l[k]? = some x->rs[k]? = some r->VX C x r (σ k) (σ (k+1))
variable {ops:Array Oper} {l:List AI} {σ:Nat->St} {rs:List EJ}
theorem kN {X:Nat->Bool} : ∀ (l:List EJ) (k:Nat) (x:D),(∀ i,i<l.length->X (k+i)=false)->EB X l k x=x
 | [],_,_,_=>rfl
 | r::q,k,x,h=>by
  simp only[EB];rw[show X k=false by simpa using h 0 (by simp)];exact kN q (k+1) _ λ i hi=>by
   have:=h (i+1) (by simpa using hi)
   rw[show k+1+i=k+(i+1) by omega];exact this
def d0 (σ:Nat->St):D:=(g7 (σ 0).tm,(σ 0).own)
theorem jJ (h:aG C ops l σ rs) : ∀ k,k<=l.length->EB (λ j=>decide (j<k)) rs 0 (d0 σ)=(g7 (σ k).tm,(σ k).own)
 | 0,_=>kN rs 0 _ λ i _=>by simp
 | k+1,hk=>by
  have yu:k<l.length:=by omega
  have hkr:k<rs.length:=by rw[h.len];exact yu
  have hr:rs[k]? = some rs[k]:=zE hkr;have hf:=h.fits k l[k] rs[k] (zE yu) hr;rw[wE (X:=λ j=>decide (j<k)) (X':=λ j=>decide (j<k+1)) hr (by simp) (λ j=>by
   by_cases h1:j=k
   ·simp [h1]
   ·simp [h1];omega) _ (λ j r' _ j9 hX=>by simp at hX;omega),jJ h k (by omega)]
  exact hf.act.symm
section
variable {X:Nat->Bool} {i:Nat} {x:AI} {r:EJ}
theorem Nv (hX:VV ops X) (jo:X i=false) (cb : ∀ o,ops[i]? = some o -> ∀ e∈o.after,Region.binds .any e=true->X e.on=true) {j:Nat} (l9:i≠j) (ho:JS (Region.before ops) i j=true):X j=decide (j<i):=by
 rcases Nat.lt_or_gt_of_ne l9 with j9|lz
 ·have:X j=false:=by
   cases hj:X j with
   | false=>rfl
   | true=>have:=Nu hX hj j9 ho;rw[jo]at this;cases this
  rw[this];simp;omega
 ·rw[AjB hX cb lz ho];simp;omega
theorem AfP (h:aG C ops l σ rs) (hx:l[i]? = some x) (hr:rs[i]? = some r) (hX:VV ops X) (jo:X i=false) (cb : ∀ o,ops[i]? = some o -> ∀ e∈o.after,Region.binds .any e=true->X e.on=true) :
  MK (EB X rs 0 (d0 σ)).1 x.guard=some r.g/\(r.g=true->e9 C x.c4 (E6 (EB X rs 0 (d0 σ)).1) (EB X rs 0 (d0 σ)).2 x.op=some r.E) /\
  (if r.g then r.E.valOf (EB X rs 0 (d0 σ)).2 else .g8 [])=r.v /\
  ∀ X':Nat->Bool,(∀ j,X' j=(decide (j=i)||X j))->EB X' rs 0 (d0 σ)=r.act (EB X rs 0 (d0 σ)):=by
 have ft:i<l.length:=(zS hx).1;have hf:=h.fits i x r hx hr;have wz:=jJ h i (by omega);generalize hT:EB X rs 0 (d0 σ)=TX;have iq : ∀ (j:Nat) (r':EJ),rs[j]? = some r' -> ∃ y,l[j]? = some y/\VX C y r' (σ j) (σ (j+1)):=λ j r' hj=>by
  have di:j<l.length:=by rw[<-h.len];exact (zS hj).1
  exact ⟨l[j],zE di,h.fits j _ _ (zE di) hj⟩
 have wv : ∀ t∈WR x,TX.1 t=g7 (σ i).tm t:=λ t ht=>by
  have:=wG (X:=X) (Y:=λ j=>decide (j<i)) (t:=t) rs 0 (d0 σ) (d0 σ) rfl (λ j r' hj hd=>by
   simp only[Nat.zero_add];by_cases l9:i=j
   ·subst l9;simp [jo]
   ·obtain ⟨y,hy,er⟩:=iq j r' hj
    rcases (UK h.ok hx hy l9).1 with ho|⟨h1,_⟩
    ·exact Nv hX jo cb l9 ho
    ·exact absurd ht (h1 t (by rw[<-er.d];exact hd)))
  rw[hT,wz]at this;exact this
 have Ei : ∀ t∈JF x.op,TX.1 t=g7 (σ i).tm t:=λ t ht=>wv t (by simp [WR,ht])
 have dc : ∀ s,(∀ (j:Nat) (y:AI) (r':EJ),i≠j->l[j]? = some y->rs[j]? = some r'->JS (Region.before ops) i j=true \/ ∀ o,r'.own o s=o s)->TX.2 s=(σ i).own s:=λ s hs=>by
  have:=wF (X:=X) (Y:=λ j=>decide (j<i)) (s:=s) rs 0 (d0 σ) (d0 σ) rfl (λ j r' hj=>by
   simp only[Nat.zero_add];by_cases l9:i=j
   ·subst l9;left;simp [jo]
   ·obtain ⟨y,hy,er⟩:=iq j r' hj
    rcases hs j y r' l9 hy hj with ho|ho
    ·exact .inl (Nv hX jo cb l9 ho)
    ·exact .inr ho)
  rw[hT,wz]at this;exact this
 have kn : ∀ (j:Nat) (y:AI) (r':EJ),l[j]? = some y->rs[j]? = some r'->LO y.op=false -> ∀ o,r'.own o=o:=λ j y r' hy hj hm o=>by
  simp only[LO,Bool.or_eq_false_iff]at hm;exact VB (h.fits j y r' hy hj) hm.1.1 (by simpa using hm.2) o
 have Dz : ∀ (j:Nat) (y:AI),i≠j->l[j]? = some y->H4 y.op=true->LO x.op=true->JS (Region.before ops) i j=true:=λ j y l9 hy ht gi=>by
  rcases (UK h.ok hy hx (Ne.symm l9)).1 with ho|⟨_,h2,_⟩
  ·rw[Ns];exact ho
  ·rw[ht,gi]at h2;simp at h2
 have hg:MK TX.1 x.guard=some r.g:=by
  rw[<-hf.g];cases Al:x.guard with
  | none=>rfl
  | some gw =>
   obtain ⟨g,w⟩:=gw;simp only[MK];rw[wv g (by simp [WR,Al])]
 have xb:H4 x.op=true->TX.2=(σ i).own:=λ ht=>by
  funext s
  refine dc s λ j y r' l9 hy hj => ?_
  cases hm:LO y.op with
  | false=>exact .inr λ o=>by rw[kn j y r' hy hj hm o]
  | true =>
   rcases (UK h.ok hx hy l9).1 with ho|⟨_,h2,_⟩
   ·exact .inl ho
   ·rw[ht,hm]at h2;simp at h2
 have Dv:ZP x.op=true->TX.2.m7 x.c4=(σ i).own.m7 x.c4:=λ jt=>by
  refine Aid λ s hs=>dc s λ j y r' l9 hy hj => ?_
  have gi:LO x.op=true:=by simp [LO,jt]
  cases ht:H4 y.op with
  | true=>exact .inl (Dz j y l9 hy ht gi)
  | false =>
   cases ib:FJ y.op with
   | none=>exact .inr λ o=>by rw[VB (h.fits j y r' hy hj) ht ib o]
   | some q =>
    rcases (UK h.ok hx hy l9).1 with ho|⟨_,_,h3⟩
    ·exact .inl ho
    ·exact .inr λ o=>Ol (h.fits j y r' hy hj) ib (p:=s) (λ e=>hs (by rw[e];exact h3 jt q ib)) o
 have kp : ∀ s,FJ x.op=some s->TX.2 s=(σ i).own s:=λ s se=>by
  have gi:LO x.op=true:=by simp [LO,se]
  exact dc s λ j y r' l9 hy hj=>by
   cases ht:H4 y.op with
   | true=>exact .inl (Dz j y l9 hy ht gi)
   | false =>
    cases ib:FJ y.op with
    | none=>exact .inr λ o=>by rw[VB (h.fits j y r' hy hj) ht ib o]
    | some q =>
     rcases (UK h.ok hx hy l9).2 with ho|zm
     ·exact .inl ho
     ·exact .inr λ o=>Ol (h.fits j y r' hy hj) ib (zm s q se ib) o
 have Ju:r.g=true->e9 C x.c4 (E6 TX.1) TX.2 x.op=some r.E:=λ cq=>by
  rw[AfY Ei,<-hf.E cq];cases ht:H4 x.op with
  | true=>rw[xb ht]
  | false=>exact Af1 _ _ ht Dv kp
 have hval:(if r.g then r.E.valOf TX.2 else .g8 [])=r.v:=by
  rw[hf.v];cases Tq:r.g with
  | false=>rfl
  | true =>
   simp only[if_true];cases se:FJ x.op with
   | none =>
    cases ht:H4 x.op with
    | true=>rw[xb ht]
    | false =>
     obtain ⟨v,hv⟩:=tG (hf.E Tq) ht se;rw[hv];rfl
   | some s =>
    have zm:=kp s se;rcases tF (hf.E Tq) se with ⟨b,v,hv|hv⟩|⟨x,v,hv|hv⟩<;>rw[hv]<;>simp only[CI.valOf,AJ.g9,zm]
 refine ⟨hg,Ju,hval,λ X' td => ?_⟩;rw[<-hT];refine wE hr jo td _ λ j r' hj j9 Iu z => ?_
 obtain ⟨y,hy,er⟩:=iq j r' hj;have l9:i≠j:=by omega
 have gk : ¬ JS (Region.before ops) i j=true:=λ ho=>by
  have:=Nu hX Iu j9 ho
  rw[jo]at this;cases this
 obtain ⟨Kn,zf⟩:=UK h.ok hx hy l9;obtain ⟨wo,Av⟩:=UK h.ok hy hx (Ne.symm l9);have hp:=Kn.resolve_left gk;have hq:=wo.resolve_left (by rw[Ns];exact gk);unfold EJ.act;refine Prod.ext ?_ ?_
 ·funext t
  simp only[KM];by_cases h1:r'.d=some t<;>by_cases h2:r.d=some t
  ·exact absurd (by rw[hf.d]at h2;simp [WR,h2]) (hp.1 t (by rw[<-er.d];exact h1))
  ·simp [h1,h2]
  ·simp [h1,h2]
  ·simp [h1,h2]
 ·show r'.own (r.own z.2)=r.own (r'.own z.2)
  cases gi:LO x.op with
  | false=>rw[kn i x r hx hr gi,kn i x r hx hr gi]
  | true =>
   cases nw:LO y.op with
   | false=>rw[kn j y r' hy hj nw,kn j y r' hy hj nw]
   | true =>
    have Ul:H4 x.op=false:=by
     rcases hp.2.1 with h1|h1
     ·exact h1
     ·rw[nw]at h1;cases h1
    have Um:H4 y.op=false:=by
     rcases hq.2.1 with h1|h1
     ·exact h1
     ·rw[gi]at h1;cases h1
    cases se:FJ x.op with
    | none=>rw[VB hf Ul se,VB hf Ul se]
    | some s =>
     cases ib:FJ y.op with
     | none=>rw[VB er Um ib,VB er Um ib]
     | some s' =>
      have zm:=(zf.resolve_left gk) s s' se ib;rcases mT hf se with h1|⟨b,h1⟩
      ·rw[h1,h1]
      ·rcases mT er ib with h2|⟨b',h2⟩
       ·rw[h2,h2]
       ·rw[h1,h2,h2,h1]
        funext q
        simp only[AJ.put];by_cases Du:q=s<;>by_cases zi:q=s'
        ·exact absurd (Du.symm.trans zi) zm
        ·simp [Du,zm]
        ·simp [zi,Ne.symm zm]
        ·simp [Du,zi]
end
end
end Go.c6
namespace Go.c6
open Go.RowKit
section
variable {ops:Array Oper} {md:Region.Mode}
theorem Ym {e:Edge} (h:Region.binds .any e=true) (md:Region.Mode):Region.binds md e=true:=by
 unfold Region.binds at *;split at h<;>simp_all
theorem yM (ops:Array Oper) (md:Region.Mode) : ∀ (fuel t:Nat) (b9:Array Bool),b9.size=ops.size -> ∀ (k i:Nat),(Region.linearise.go md ops fuel t b9 [])[k]? = some i ->
  ∃ o,ops[i]? = some o /\ ∀ e∈o.after,Region.binds md e=true->b9.getD e.on false=true\/e.on∈(Region.linearise.go md ops fuel t b9 []).take k
 | 0,t,b9,hs,k,i,h=>by simp [Region.linearise.go]at h
 | fuel+1,t,b9,hs,k,i,h=>by
  have nu:Region.linearise.go md ops (fuel+1) t b9 []=match (Region.ready md ops b9)[t%(Region.ready md ops b9).length]? with
   | some i=>i::Region.linearise.go md ops fuel (t/(Region.ready md ops b9).length) (b9.setIfInBounds i true) []
   | none=>[]:=by
   simp only[Region.linearise.go];change (match (Region.ready md ops b9)[t%(Region.ready md ops b9).length]? with
    | some i=>Region.linearise.go md ops fuel (t/(Region.ready md ops b9).length) (b9.setIfInBounds i true) [i]
    | none=>[].reverse)=_
   cases (Region.ready md ops b9)[t%(Region.ready md ops b9).length]? with
   | none=>rfl
   | some i=>simp only[];rw[linearise_go_acc];rfl
  rw[nu]at h ⊢;cases hr:(Region.ready md ops b9)[t%(Region.ready md ops b9).length]? with
  | none=>rw[hr]at h;simp at h
  | some q =>
   rw[hr]at h;simp only at h ⊢;obtain ⟨_,oq,hoq,hq⟩:=mem_ready.1 (zM hr);cases k with
   | zero =>
    simp at h;subst h;exact ⟨oq,hoq,λ e he hb => .inl (hq e he hb)⟩
   | succ k =>
    simp at h;obtain ⟨o,ho,hh⟩:=yM ops md fuel _ _ (by simpa using hs) k i h;refine ⟨o,ho,λ e he hb => ?_⟩;rcases hh e he hb with h1|h1
    ·by_cases heq:e.on=q
     ·right;simp [heq]
     ·left
      rw[getD_set_ne false (Ne.symm heq)]at h1;exact h1
    ·right;simp [h1]
theorem kI {p:Nat->Bool} : ∀ (l:List Nat),(∃ i∈l,p i=false) -> ∃ k i,l[k]? = some i/\p i=false /\ ∀ j∈l.take k,p j=true
 | [],⟨i,hi,_⟩=>by simp at hi
 | x::r,⟨i,hi,hp⟩=>by
  cases hx:p x with
  | false=>exact ⟨0,x,rfl,hx,by simp⟩
  | true =>
   have : ∃ i∈r,p i=false:=by
    rcases List.mem_cons.1 hi with h|h
    ·subst h;rw[hx]at hp;cases hp
    ·exact ⟨i,h,hp⟩
   obtain ⟨k,j,h1,h2,h3⟩:=kI r this;refine ⟨k+1,j,by simpa using h1,h2,λ q hq => ?_⟩;simp only[List.take_succ_cons,List.mem_cons]at hq;rcases hq with h|h
   ·subst h;exact hx
   ·exact h3 q h
theorem progress {l:List AI} (hd:UJ ops l=true) (yx:md = .gc->Region.departs ops=true) {b9:Array Bool} (hs:b9.size=ops.size) (hr:Region.ready md ops b9=[]) : ∀ j,j<ops.size->b9.getD j false=true:=by
 intro j hj;cases di:b9.getD j false with
 | true=>rfl
 | false =>
  exfalso;simp only[UJ,Bool.and_eq_true]at hd;obtain ⟨⟨_,fy⟩,rf⟩:=hd;have lk : ∀ i,i<ops.size->b9.getD i false=false -> ¬ ∀ o,ops[i]? = some o -> ∀ e∈o.after,Region.binds md e=true->b9.getD e.on false=true:=λ i hi hl mn=>by
   have:i∈Region.ready md ops b9:=mem_ready.2 ⟨by
    have:i<b9.size:=by omega
    simp [Array.getD,this]at hl ⊢;exact hl,ops[i],Array.getElem?_eq_getElem hi,λ e he hb=>mn ops[i] (Array.getElem?_eq_getElem hi) e he hb⟩
   rw[hr]at this;simp at this
  by_cases Gc:md = .gc
  ·subst Gc
   rw[yx rfl]at rf;simp only[Bool.not_true,Bool.false_or,List.all_eq_true,List.mem_range,List.contains_iff_mem]at rf;obtain ⟨k,i,h1,h2,h3⟩:=kI (p:=λ q=>b9.getD q false) (Region.linearise .gc ops 0) ⟨j,rf j hj,di⟩;obtain ⟨o,ho,hh⟩:=yM ops .gc ops.size 0 (Array.replicate ops.size false) (by simp) k i h1;have hi:i<ops.size:=(Array.getElem?_eq_some_iff.1 ho).1;refine lk i hi h2 λ o' uv e he hb => ?_
   rw[ho]at uv;obtain rfl:o=o':=by simpa using uv
   rcases hh e he hb with h4|h4
   ·simp [Array.getD]at h4
   ·exact h3 e.on h4
  ·obtain ⟨k,i,h1,h2,h3⟩:=kI (p:=λ q=>b9.getD q false) (List.range ops.size) ⟨j,by simpa using hj,di⟩
   have Dg:i=k:=by
    have yu:k<ops.size:=by have:=(zS h1).1;simpa using this
    rw[List.getElem?_range yu]at h1;simpa using h1.symm
   subst Dg;have hi:i<ops.size:=by have:=(zS h1).1;simpa using this
   refine lk i hi h2 λ o ho e he hb => ?_
   rw[List.all_eq_true]at fy;have je:(o,i)∈ops.toList.zipIdx:=List.mem_zipIdx_iff_getElem?.2 (by simpa using ho);have h4:=fy (o,i) je;simp only[Array.all_eq_true_iff_forall_mem,Bool.or_eq_true,decide_eq_true_eq]at h4;rcases h4 e he with h5|h5
   ·exact h3 e.on (by rw[List.take_range];simp;omega)
   ·exfalso
    unfold Region.binds at hb;split at h5
    ·rename_i row Kx
     rw[Kx]at hb;simp at hb;exact Gc hb
    ·cases h5
variable {B:Nat} {S:Nat->Prop} {w0:World} {m0:M} {N:Nat}
variable {P:Program} {num:Nat->Nat} {C:Cl} {Q:Exit->Act->World->Prop}
def VN (b9:Array Bool) (n:Nat):Nat:=(List.range n).countP (λ j => !b9.getD j false)
theorem rS {α:Type} {p q:α->Bool} : ∀ {l:List α} {x:α},(∀ y∈l,q y=true->p y=true)->x∈l->p x=true->q x=false->l.countP q<l.countP p
 | [],x,_,hx,_,_=>by simp at hx
 | y::r,x,h,hx,hp,hq=>by
  have hle:r.countP q<=r.countP p:=List.countP_mono_left λ z hz hqz=>h z (by simp [hz]) hqz
  rw[List.countP_cons,List.countP_cons];rcases List.mem_cons.1 hx with rfl|hx
  ·simp only[hp,hq,if_true,Bool.false_eq_true,if_false]
   omega
  ·have:=rS (l:=r) (λ z hz=>h z (by simp [hz])) hx hp hq
   by_cases Kt:q y=true
   ·simp only[Kt,h y (by simp) Kt,if_true];omega
   ·simp only[Kt,Bool.false_eq_true,if_false]
    split<;>omega
theorem AlJ (hC:H6 P num C) {l:List AI} (j7:SH P num N ops ops.toList l=true) {σ:Nat->St} {rs:List EJ} (h:aG C ops l σ rs) (yx:md = .gc->Region.departs ops=true)
  (hQ : ∀ m' a',m'.own=(σ l.length).own->GS B S w0 m0 N (g7 (σ l.length).tm) m' a'->Q .normal a' m'.w) :
  ∀ (fuel:Nat) (b9:Array Bool) (a:Act) (m:M),b9.size=ops.size->VN b9 ops.size<=fuel->VV ops (λ j=>b9.getD j false)->m.own=(EB (λ j=>b9.getD j false) rs 0 (d0 σ)).2->GS B S w0 m0 N (EB (λ j=>b9.getD j false) rs 0 (d0 σ)).1 m a->wpAny P md ops Q fuel b9 a m.w:=by
 have hlen:ops.size=l.length:=by have:=(ZF j7).1;simpa using this
 have final : ∀ (b9:Array Bool) (a:Act) (m:M),(∀ j,j<ops.size->b9.getD j false=true)->m.own=(EB (λ j=>b9.getD j false) rs 0 (d0 σ)).2->GS B S w0 m0 N (EB (λ j=>b9.getD j false) rs 0 (d0 σ)).1 m a->Q .normal a m.w:=λ b9 a m mn k6 hf=>by
  have:EB (λ j=>b9.getD j false) rs 0 (d0 σ)=(g7 (σ l.length).tm,(σ l.length).own):=by
   rw[<-jJ h l.length (Nat.le_refl _)];refine cS rs 0 _ λ i hi => ?_
   simp only[Nat.zero_add];rw[mn i (by rw[hlen,<-h.len];exact hi)];simp;rw[<-h.len];exact hi
  rw[this]at k6 hf;exact hQ m a k6 hf
 have Bj : ∀ b9:Array Bool,VN b9 ops.size<=0 -> ∀ j,j<ops.size->b9.getD j false=true:=λ b9 h0 j hj=>by
  have h1:VN b9 ops.size=0:=by omega
  unfold VN at h1;rw[List.countP_eq_zero]at h1;simpa using h1 j (by simpa using hj)
 intro fuel;induction fuel with
 | zero =>
  intro b9 a m v7 hn Jr k6 hf;refine ⟨?_,final b9 a m (Bj b9 hn) k6 hf⟩;cases hr:Region.ready md ops b9 with
  | nil=>rfl
  | cons i r =>
   obtain ⟨h1,o,ho,_⟩:=mem_ready.1 (show i∈Region.ready md ops b9 by rw[hr];simp);have hi:i<ops.size:=(Array.getElem?_eq_some_iff.1 ho).1;have h2:=Bj b9 hn i hi;have ft:i<b9.size:=by omega
   simp [Array.getD,ft]at h1 h2;rw[h1]at h2;cases h2
 | succ fuel ih =>
  intro b9 a m v7 hn Jr k6 hf;refine ⟨λ hr=>final b9 a m (progress h.ok yx v7 hr) k6 hf,λ i hi => ?_⟩;obtain ⟨h1,o,ho,ym⟩:=mem_ready.1 hi;have hio:i<ops.size:=(Array.getElem?_eq_some_iff.1 ho).1;have ft:i<b9.size:=by omega
  have nv:b9.getD i false=false:=by
   simp [Array.getD,ft]at h1 ⊢;exact h1
  have rh:i<l.length:=by omega
  have cg:i<rs.length:=by rw[h.len];exact rh
  have hx:l[i]? = some l[i]:=zE rh;have hr:rs[i]? = some rs[i]:=zE cg;have cb : ∀ o',ops[i]? = some o' -> ∀ e∈o'.after,Region.binds .any e=true->b9.getD e.on false=true:=λ o' uv e he hb=>by
   rw[ho]at uv;obtain rfl:o=o':=by simpa using uv
   exact ym e he (Ym hb md)
  obtain ⟨g1,g2,g3,g4⟩:=AfP h hx hr Jr nv cb;have Kk:=(ZF j7).2 i o l[i] (by simpa using ho) hx;have td : ∀ j,(b9.setIfInBounds i true).getD j false=(decide (j=i)||b9.getD j false):=λ j=>by
   by_cases Kb:j=i
   ·subst Kb;simp [Array.getD,ft]
   ·rw[getD_set_ne false (Ne.symm Kb)];simp [Kb]
  refine Ox hC ho Kk hf g1 (λ hg=>by rw[k6];exact g2 hg) λ m' a' iw kj => ?_
  have gj:=g4 _ td;refine ih (b9.setIfInBounds i true) a' m' (by simpa using v7) ?_ ?_ ?_ ?_
  ·have j9:VN (b9.setIfInBounds i true) ops.size<VN b9 ops.size:=by
    refine rS (x:=i) (λ j _ hj => ?_) (by simpa using hio) (by simp [nv]) (by rw[td];simp);rw[td]at hj;simp at hj ⊢;exact hj.2
   omega
  ·intro j oj hj Gp e he hb
   change (b9.setIfInBounds i true).getD j false=true at hj;show (b9.setIfInBounds i true).getD e.on false=true;rw[td]at hj ⊢;simp only[Bool.or_eq_true,decide_eq_true_eq]at hj ⊢;rcases hj with rfl|hj
   ·exact .inr (cb oj Gp e he hb)
   ·exact .inr (Jr j oj hj Gp e he hb)
  ·rw[gj,iw,k6]
   rfl
  ·rw[gj]
   rw[k6,g3]at kj;have hd:(l[i]).dst=(rs[i]).d:=(h.fits i _ _ hx hr).d.symm;rw[hd]at kj;exact kj
theorem AlK (hC:H6 P num C) {id:Nat} {l:List AI} (j7:SH P num N ops ops.toList l=true) (hd:UJ ops l=true) {st j8:St} (k7:DI C l st=some j8) {m:M} {a:Act} (k6:m.own=st.own) (hf:GS B S w0 m0 N (g7 st.tm) m a)
  (hQ : ∀ m' a',m'.own=j8.own->GS B S w0 m0 N (g7 j8.tm) m' a'->Q .normal a' m'.w):(Code.region id ops true).wp P Q a m.w:=by
 obtain ⟨σ,rs,h0,h1,hl,h2⟩:=trace k7;have hD:aG C ops l σ rs:=⟨hd,hl,h2⟩;obtain ⟨eu,Dc⟩:=grow hf.mem ((Below.refl m.w.heap.size m.w).drew);have qp:GS B S w0 m0 N (g7 st.tm) ⟨m.ν,m.own,m.w.drew⟩ a:=⟨eu,hf.ext.trans Dc,λ i=>Dc.cv (hf.tm i),hf.size,hf.defers⟩;have Ey:EB (λ j=>(Array.replicate ops.size false).getD j false) rs 0 (d0 σ)=d0 σ:=kN rs 0 _ λ i _=>by simp [Array.getD]
 have key : ∀ md:Region.Mode,(md = .gc->Region.departs ops=true) -> ∀ t,wpOps P ops Q (Region.linearise md ops t) a m.w.drew:=λ md yx t=>by
  refine wpAny_sound ops.size t (Array.replicate ops.size false) a m.w.drew ?_;refine AlJ hC j7 hD yx (by rw[h1];exact hQ) ops.size _ a ⟨m.ν,m.own,m.w.drew⟩ (by simp) ?_ ?_ ?_ ?_
  ·unfold VN
   exact Nat.le_trans List.countP_le_length (by simp)
  ·intro j o hj
   simp [Array.getD]at hj
  ·rw[Ey];simp [d0,h0,k6]
  ·rw[Ey];simpa [d0,h0] using qp
 refine wp_region_draw λ t => ?_
 change wpOps P ops Q _ a m.w.drew;unfold Region.schedule;split
 ·exact key .any (λ h=>by cases h) t
 ·rename_i Da
  have Ga:Region.departs ops=true:=by simp at Da;exact Da.2
  split
  ·exact key .text (λ_=>Ga) _
  ·exact key .gc (λ_=>Ga) _
end
end Go.c6

namespace Go.c6
open Go.RowKit
section
variable {B:Nat} {S:Nat->Prop} {w0:World} {m0:M} {N:Nat}
variable {P:Program} {num:Nat->Nat} {C:Cl}
theorem Alk (m:Tm) (l:List Nat) (j:Nat):g7 (y9 m l) j=g7 m j\/g7 (y9 m l) j = .any:=by
 induction m with
 | nil=>exact .inl rfl
 | cons x r ih =>
  obtain ⟨i,v⟩:=x;simp only[y9];split
  ·by_cases h:j=i
   ·subst h
    rename_i hc;right
    clear ih;induction r with
    | nil=>rfl
    | cons y q ih =>
     obtain ⟨k,u⟩:=y;simp only[y9];split
     ·exact ih
     ·rename_i hk
      have : ¬ j=k:=λ e=>by subst e;exact hk hc
      simp only[g7,if_neg this];exact ih
   ·rcases ih with h1|h1
    ·left;simp only[g7,if_neg h];exact h1
    ·right;exact h1
  ·by_cases h:j=i
   ·left;simp [g7,h]
   ·simp only[g7,if_neg h]
    exact ih
inductive JI (P:Program) (num:Nat->Nat) (N:Nat):List It->List Item->Prop
 | nil:JI P num N [] []
 | code {c:Code} {a:BG} {k:List It} {t:List Item} (h:FN P num N c a=true) (hk:JI P num N k t):JI P num N (.code a::k) (.code c::t)
 | drop {ts ss:List Nat} {k:List It} {t:List Item} (hk:JI P num N k t):JI P num N (.ln ts ss::k) t
 | e8 {id:Nat} {k:List It} {t:List Item} (hk:JI P num N k t):JI P num N (.e8 id::k) (.inBlock id::t)
 | lp {c:Code} {a:BG} {k:List It} {t:List Item} (h:FN P num N c a=true) (hk:JI P num N k t):JI P num N (.lp a::k) (.inLoop c::t)
 | scope {c:Code} {k:List It} {t:List Item} (hk:JI P num N k t):JI P num N k (.inScope c::t)
theorem Qs {b:Frame} {a:Act} {k:List Item} {cs:List Frame} {w:World} {c:Code}:step P (lone (b.at a (.inScope c::k)) cs w) = .next (lone (b.at a k) cs w) :=
 step_lone_go (by simp [stepG,stepG.exec,Frame.at])
theorem Ak1 {b:Frame} {a:Act} {k:List Item} {cs:List Frame} {w:World} {c:Code}:step P (lone (b.at a (.code (.scope c)::k)) cs w) = .next (lone (b.at a (.code c :: .inScope c::k)) cs w) :=
 step_lone_go (by simp [stepG,stepG.exec,Frame.at])
theorem WH {id:Nat} : ∀ {k:List It} {t:List Item},JI P num N k t -> ∀ {k':List It},GP id k=some k' -> ∃ t',exitTo id t=some t'/\JI P num N k' t'
 | _,_,.nil,k',h=>by simp [GP]at h
 | _,_,.code h0 hk,k',h=>by
  simp only[GP]at h;obtain ⟨t',h1,h2⟩:=WH hk h;exact ⟨t',by simpa [exitTo] using h1,h2⟩
 | _,_,.drop hk,k',h=>by
  simp only[GP]at h;exact WH hk h
 | _,_,.e8 (id:=Hd) hk,k',h=>by
  simp only[GP]at h;split at h
  ·rename_i he
   subst he;simp only[Option.some.injEq]at h;subst h;exact ⟨_,by simp [exitTo],hk⟩
  ·rename_i he
   obtain ⟨t',h1,h2⟩:=WH hk h;exact ⟨t',by simpa [exitTo,he] using h1,h2⟩
 | _,_,.lp h0 hk,k',h=>by
  simp only[GP]at h;obtain ⟨t',h1,h2⟩:=WH hk h;exact ⟨t',by simpa [exitTo] using h1,h2⟩
 | _,_,.scope hk,k',h=>by
  obtain ⟨t',h1,h2⟩:=WH hk h;exact ⟨t',by simpa [exitTo] using h1,h2⟩
def oX (B:Nat) (S:Nat->Prop) (w0:World) (m0:M) (N:Nat) (P:Program) (b:Frame) (cs:List Frame) (Lx:Machine) (j8:St):Prop :=
 ∃ a' m' m9,Steps P Lx (lone { b.at a' m9 with mode := .returning } cs m'.w)/\m'.own=j8.own/\GS B S w0 m0 N (g7 j8.tm) m' a'
theorem Akr (hC:H6 P num C) (b:Frame) (cs:List Frame) : ∀ (n:Nat) (k:List It) (st j8:St),run C n k st=some j8 -> ∀ (t:List Item),JI P num N k t -> ∀ (m:M) (a:Act),m.own=st.own->GS B S w0 m0 N (g7 st.tm) m a ->
  oX B S w0 m0 N P b cs (lone (b.at a t) cs m.w) j8:=by
 intro n;induction n with
 | zero=>intro k st j8 h;simp [run]at h
 | succ n ih =>
  intro k st j8 h t ht;have fin : ∀ (t:List Item),JI P num N [] t -> ∀ (m:M) (a:Act),m.own=st.own->GS B S w0 m0 N (g7 st.tm) m a->st=j8->oX B S w0 m0 N P b cs (lone (b.at a t) cs m.w) j8:=by
   intro t ht;generalize hk:([]:List It)=kk at ht;induction ht with
   | nil =>
    intro m a k6 hf he;subst he;exact ⟨a,m,[],.one step_end,k6,hf⟩
   | scope fu fv =>
    intro m a k6 hf he;obtain ⟨a',m',m9,h1,h2⟩:=fv hk m a k6 hf he;exact ⟨a',m',m9,.head Qs h1,h2⟩
   | code=>cases hk
   | drop=>cases hk
   | e8=>cases hk
   | lp=>cases hk
  cases k with
  | nil =>
   intro m a k6 hf;simp only[run,Option.some.injEq]at h;exact fin t ht m a k6 hf h
  | cons it k =>
   generalize gy:it::k=kk at ht;induction ht with
   | nil=>cases gy
   | scope fu fv =>
    intro m a k6 hf;obtain ⟨a',m',m9,h1,h2⟩:=fv gy m a k6 hf;exact ⟨a',m',m9,.head Qs h1,h2⟩
   | @e8 id k2 t2 fu fv =>
    intro m a k6 hf;obtain ⟨rfl,rfl⟩:it = .e8 id/\k=k2:=by simpa using gy
    simp only[run]at h;obtain ⟨a',m',m9,h1,h2⟩:=ih k st j8 h t2 fu m a k6 hf;exact ⟨a',m',m9,.head step_inBlock h1,h2⟩
   | @lp c ac k2 t2 j7 fu fv =>
    intro m a k6 hf;obtain ⟨rfl,rfl⟩:it = .lp ac/\k=k2:=by simpa using gy
    simp only[run]at h;obtain ⟨a',m',m9,h1,h2⟩:=ih _ st j8 h (.code c :: .inLoop c::t2) (.code j7 (.lp j7 fu)) m a k6 hf;exact ⟨a',m',m9,.head step_inLoop h1,h2⟩
   | @drop ts ss k2 t2 fu fv =>
    intro m a k6 hf;obtain ⟨rfl,rfl⟩:it = .ln ts ss/\k=k2:=by simpa using gy
    simp only[run]at h;obtain ⟨jr,he⟩:=AfQ hf.mem ss;have kj:GS B S w0 m0 N (g7 (y9 st.tm ts)) ⟨m.ν,m.own.drop ss,m.w⟩ a:=⟨jr,hf.ext.trans he,λ i=>by
     rcases Alk st.tm ts i with h1|h1
     ·rw[h1];exact he.cv (hf.tm i)
     ·rw[h1];exact .any _,hf.size,hf.defers⟩
    obtain ⟨a',m',m9,h1,h2,h3⟩:=ih k ⟨y9 st.tm ts,st.own.drop ss⟩ j8 h t2 fu ⟨m.ν,m.own.drop ss,m.w⟩ a (by simp [k6]) kj;exact ⟨a',m',m9,h1,h2,h3⟩
   | @code c ac k2 t2 j7 fu fv =>
    obtain ⟨rfl,rfl⟩:it = .code ac/\k=k2:=by simpa using gy
    clear fv gy;intro m a k6 hf;cases ac with
    | dr ac ts ss =>
     simp only[FN]at j7;simp only[run]at h;exact ih _ st j8 h _ (.code j7 (.drop fu)) m a k6 hf
    | skip =>
     simp only[run]at h;cases c with
     | skip =>
      obtain ⟨a',m',m9,h1,h2⟩:=ih _ st j8 h _ fu m a k6 hf;exact ⟨a',m',m9,.head step_skip h1,h2⟩
     | label =>
      obtain ⟨a',m',m9,h1,h2⟩:=ih _ st j8 h _ fu m a k6 hf;exact ⟨a',m',m9,.head step_label h1,h2⟩
     | _=>simp [FN]at j7
    | scope ac =>
     simp only[run]at h;cases c with
     | scope c =>
      simp only[FN]at j7;obtain ⟨a',m',m9,h1,h2⟩:=ih _ st j8 h _ (.code j7 (.scope (c:=c) fu)) m a k6 hf;exact ⟨a',m',m9,.head Ak1 h1,h2⟩
     | _=>simp [FN]at j7
    | seq a1 a2 =>
     simp only[run]at h;cases c with
     | seq c1 c2 =>
      simp only[FN,Bool.and_eq_true]at j7;obtain ⟨a',m',m9,h1,h2⟩:=ih _ st j8 h _ (.code j7.1 (.code j7.2 fu)) m a k6 hf;exact ⟨a',m',m9,.head step_seq h1,h2⟩
     | _=>simp [FN]at j7
    | cond x a1 a2 =>
     simp only[run]at h;cases c with
     | cond xc c1 c2 =>
      simp only[FN,Bool.and_eq_true]at j7;have v9:CV B S m (st.ev x) (a.eval xc):=by rw[tW];exact hf.says xc x j7.1.1
      split at h
      ·rename_i hx
       rw[hx]at v9;obtain ⟨a',m',m9,h1,h2⟩:=ih _ st j8 h _ (.code j7.1.2 fu) m a k6 hf;exact ⟨a',m',m9,.head (step_cond (UI v9)) h1,h2⟩
      ·rename_i hx
       rw[hx]at v9;obtain ⟨a',m',m9,h1,h2⟩:=ih _ st j8 h _ (.code j7.2 fu) m a k6 hf;exact ⟨a',m',m9,.head (step_cond (UI v9)) h1,h2⟩
      ·cases h
     | _=>simp [FN]at j7
    | block id ac =>
     simp only[run]at h;cases c with
     | block Hd c =>
      simp only[FN,Bool.and_eq_true,beq_iff_eq]at j7;obtain ⟨rfl,j7⟩:=j7;obtain ⟨a',m',m9,h1,h2⟩:=ih _ st j8 h _ (.code j7 (.e8 fu)) m a k6 hf;exact ⟨a',m',m9,.head step_block h1,h2⟩
     | _=>simp [FN]at j7
    | loop ac =>
     simp only[run]at h;cases c with
     | loop c =>
      simp only[FN]at j7;obtain ⟨a',m',m9,h1,h2⟩:=ih _ st j8 h _ (.code j7 (.lp j7 fu)) m a k6 hf;exact ⟨a',m',m9,.head step_loop h1,h2⟩
     | _=>simp [FN]at j7
    | exit id =>
     simp only[run]at h;cases c with
     | exit Hd =>
      simp only[FN,beq_iff_eq]at j7;subst j7;split at h
      ·rename_i k' iv
       obtain ⟨t',e1,e2⟩:=WH fu iv;obtain ⟨a',m',m9,h1,h2⟩:=ih _ st j8 h _ e2 m a k6 hf;exact ⟨a',m',m9,.head (step_exit e1) h1,h2⟩
      ·cases h
     | _=>simp [FN]at j7
    | ret =>
     simp only[run,Option.some.injEq]at h;subst h;cases c with
     | ret=>exact ⟨a,m,.code .ret::t2,.one step_ret,k6,hf⟩
     | _=>simp [FN]at j7
    | ops l draw =>
     simp only[run]at h;split at h
     ·rename_i A7 Ef
      cases c with
      | region id ops ni =>
       simp only[FN,Bool.and_eq_true,beq_iff_eq]at j7;obtain ⟨⟨rfl,Dq⟩,mq⟩:=j7;have hwp:(Code.region id ops ni).wp P (λ e a' w'=>e = .normal /\ ∃ m',m'.w=w'/\m'.own=A7.own/\GS B S w0 m0 N (g7 A7.tm) m' a') a m.w:=by
        cases ni with
        | true=>exact AlK hC Dq (by simpa using mq) Ef k6 hf λ m' a' h1 h2=>⟨rfl,m',rfl,h1,h2⟩
        | false =>
         refine wp_region ?_;rw[List.range_eq_range'];exact Oy hC Dq ops.size 0 st A7 m a (by omega) (by simpa using Ef) k6 hf λ m' a' h1 h2=>⟨rfl,m',rfl,h1,h2⟩
       obtain ⟨e,a1,w1,⟨rfl,m1,rfl,Dr,qp⟩,Jf⟩:=hwp b t2 cs;obtain ⟨a',m',m9,h1,h2,h3⟩:=ih _ A7 j8 h _ fu m1 a1 Dr qp;exact ⟨a',m',m9,Steps.trans Jf h1,h2,h3⟩
      | _=>simp [FN]at j7
     ·cases h
end
end Go.c6

namespace Go.c6
open Go.RowKit
section
variable {P:Program} {num:Nat->Nat} {L:Lib}
def ProgOK (P : Program) (num : Nat → Nat) (L : Lib) : Prop := (∀ f fa, L f = some fa → ∃ fn, P.funcs[num f]? = some fn ∧ okFn P num fn fa = true ∧ (fn.name == "runtime.NumGoroutine") = false) ∧ L.num = num
theorem xK : ∀ (args:List AV) (k i:Nat),g7 (CR k args) i=if k<=i then (match args[i-k]? with|some v=>v|none => .any) else .any
 | [],k,i=>by simp [CR,g7]
 | v::r,k,i=>by
  simp only[CR,g7];by_cases h:i=k
  ·subst h;simp
  ·rw[if_neg h,xK r (k+1) i]
   by_cases h2:k<=i
   ·rw[if_pos h2,if_pos (by omega)]
    have:i-k=(i-(k+1))+1:=by omega
    rw[this];simp
   ·rw[if_neg h2,if_neg (by omega)]
section
variable {B:Nat} {S:Nat->Prop} {w0:World} {m0:M} {N:Nat}
def dY (tmps:Array Value):ResultVar->Sem Value
 | .tmp t=>pure (tmps.getD t undef)
 | .cell x t=>do loadVar t (<-asAddr (tmps.getD x undef))
theorem Yq {m:M} {x v:AV} {u:Value} (h:JZ x=some v) (v9:CV B S m x u):CA B S m v u:=by
 cases v9 with
 | any=>simp [JZ]at h
 | g8=>simp [JZ]at h
 | ca hc =>
  have:x=v:=by
   cases hc with
   | one hc=>cases hc with
    | rd hr=>cases hr<;>simpa [JZ] using h
    | _=>simpa [JZ] using h
   | fn=>simpa [JZ] using h
   | qh=>simpa [JZ] using h
   | agg=>simpa [JZ] using h
  subst this;exact hc
theorem mX {m:M} {a:Act} {st:St} (hf:GS B S w0 m0 N (g7 st.tm) m a) (k6:m.own=st.own) : ∀ {rv:List ResultVar} {ra:List KP} {vs:List AV},NQ P rv ra=true->ra.mapM (F9 st)=some vs ->
  ∃ us:List Value,(rv.mapM (dY a.tmps)).run P m.w = .ok us m.w/\vs.length=us.length /\ ∀ (j:Nat) (c:AV) (v:Value),vs[j]? = some c->us[j]? = some v->CA B S m c v
 | [],[],vs,_,h=>by
  simp at h;subst h;exact ⟨[],by simp,rfl,λ j c v hc=>by simp at hc⟩
 | .tmp t::r,.tmp t'::l,vs,j7,h=>by
  simp only[NQ,Bool.and_eq_true,beq_iff_eq]at j7;obtain ⟨rfl,j7⟩:=j7;simp only[List.mapM_cons,Option.bind_eq_bind,Option.pure_def]at h;cases hv:F9 st (.tmp t) with
  | none=>simp [hv]at h
  | some v =>
   cases hr:l.mapM (F9 st) with
   | none=>simp [hv,hr]at h
   | some vr =>
    simp [hv,hr]at h;subst h;obtain ⟨us,h1,h2,h3⟩:=mX hf k6 j7 hr;have v9:=hf.tm t;have om:CA B S m v (a.tmps.getD t undef):=Yq hv v9;refine ⟨a.tmps.getD t undef::us,?_,by simp [h2],λ j c u hc hu => ?_⟩
    ·simp only[List.mapM_cons,Sem.run_bind,dY,Sem.run_pure,Result.andThen_ok,h1]
    ·cases j with
     | zero =>
      obtain rfl:v=c:=by simpa using hc
      obtain rfl:a.tmps.getD t undef=u:=Option.some.inj hu;exact om
     | succ j=>exact h3 j c u (by simpa using hc) (by simpa using hu)
 | .cell x t::r,.cell x' agg n::l,vs,j7,h=>by
  simp only[NQ,Bool.and_eq_true,beq_iff_eq]at j7;obtain ⟨⟨⟨rfl,fx⟩,hn⟩,j7⟩:=j7;simp only[List.mapM_cons,Option.bind_eq_bind,Option.pure_def]at h;cases hv:F9 st (.cell x agg n) with
  | none=>simp [hv]at h
  | some v =>
   cases hr:l.mapM (F9 st) with
   | none=>simp [hv,hr]at h
   | some vr =>
    simp [hv,hr]at h;subst h;obtain ⟨us,h1,h2,h3⟩:=mX hf k6 j7 hr;have v9:=hf.tm x;simp only[F9]at hv;split at hv
    ·rename_i s u i j hx
     rw[hx]at v9;split at hv
     ·rename_i cs gx
      rw[<-k6]at gx;obtain ⟨ad,al,ht,hb⟩:=YC v9;obtain ⟨b,g,arr,e,n7,hg,ak,gp,n6,de⟩:=Nw hf.mem gx;obtain ⟨Aua,jf⟩:=dL hv n6;have hld:=nB (P:=P) t agg n (gY (by simpa using fx)) (by
       cases agg
       ·simpa using hn
       ·exact RI (by simpa using hn)) ad ak gp m.w (λ q u' hq=>by
       have j9:q<ak.length:=(zS hq).1;obtain ⟨yp,iu⟩:=hg (by omega);obtain ⟨g',cq,rfl⟩:=hb b n7;obtain rfl:g=g':=by rw[yp]at cq;simpa using cq
       rw[IK,bJ iu];exact de q u' hq)
      have Kf:(dY a.tmps (.cell x t)).run P m.w = .ok (if agg then .agg ak.toArray else ak.getD 0 undef) m.w:=by
       show (do loadVar t (<-asAddr (a.tmps.getD x undef)):Sem Value).run P m.w=_;rw[al];simpa [asAddr,Instr.loadAt,Instr.sureAddr] using hld
      have om:CA B S m v (if agg then .agg ak.toArray else ak.getD 0 undef):=by
       unfold LQ at hv;cases agg with
       | true =>
        simp only[if_true,Option.some.injEq]at hv;subst hv;exact .agg cs ak n6
       | false =>
        simp only[Bool.false_eq_true,if_false]at hv ⊢;split at hv
        ·rename_i c
         simp only[Option.some.injEq]at hv;subst hv;obtain ⟨u',ji,x8⟩:=V6 n6 (j:=0) (c:=c) rfl;simp only[List.getD,ji,Option.getD_some];exact .one x8
        ·cases hv
      refine ⟨(if agg then .agg ak.toArray else ak.getD 0 undef)::us,?_,by simp [h2],λ j' c u' hc hu => ?_⟩
      ·rw[List.mapM_cons,Sem.run_bind,Kf,Result.andThen_ok,Sem.run_bind,h1,Result.andThen_ok]
       rfl
      ·cases j' with
       | zero =>
        obtain rfl:v=c:=by simpa using hc
        obtain rfl:=Option.some.inj hu;exact om
       | succ j'=>exact h3 j' c u' (by simpa using hc) (by simpa using hu)
     ·cases hv
    ·cases hv
 | [],_::_,_,j7,_=>by simp [NQ]at j7
 | .tmp _::_,[],_,j7,_=>by simp [NQ]at j7
 | .cell _ _::_,[],_,j7,_=>by simp [NQ]at j7
 | .tmp _::_,.cell _ _ _::_,_,j7,_=>by simp [NQ]at j7
 | .cell _ _::_,.tmp _::_,_,j7,_=>by simp [NQ]at j7
end
theorem qQ (hP:ProgOK P num L) {f:Nat} {fa:AFn} (hL:L f=some fa) (us:Array Value) (w:World):(callFunc (num f) us).run P w = .ok (.enter (num f) us) w:=by
 obtain ⟨fn,h1,h2,h3⟩:=hP.1 f fa hL;have hb:fn.body.isNone=false:=by
  simp only[okFn,Bool.and_eq_true]at h2;cases hbd:fn.body with
  | none=>rw[hbd]at h2;simp at h2
  | some c=>rfl
 unfold callFunc;simp only[Sem.run_bind,run_program,Result.andThen_ok,h1,h3,hb,Bool.false_eq_true,if_false,Sem.run_pure]
theorem xM (hP:ProgOK P num L) {n:Nat} (hC:H6 P num (DE L n)) {f:Nat} {vs:List AV} {own:AJ} {r:AV} {l8:AJ} (h:D6 L (n+1) f vs own=some (r,l8)) (B:Nat) (S:Nat->Prop) (w0:World) (m:M) (us:List Value) (k6:m.own=own) (hm:BR B S w0 m) (hl:vs.length=us.length)
  (v9 : ∀ (j:Nat) (c:AV) (v:Value),vs[j]? = some c->us[j]? = some v->CV B S m c v) :
  Calls P (num f) us.toArray m.w λ e w' => ∃ u m',e = .returned u/\m'.w=w'/\m'.own=l8/\BR B S w0 m'/\DS B S m m'/\CV B S m' r u:=by
 rw[YJ]at h;cases hL:L f with
 | none=>simp [hL]at h
 | some fa =>
  simp only[hL]at h;split at h
  ·rename_i Ds
   split at h
   ·rename_i st q9
    split at h
    ·rename_i Vu gn
     simp only[Option.some.injEq,Prod.mk.injEq]at h;obtain ⟨rfl,rfl⟩:=h;obtain ⟨fn,h1,h2,h3⟩:=hP.1 f fa hL;simp only[okFn,Bool.and_eq_true,beq_iff_eq,decide_eq_true_eq]at h2;obtain ⟨⟨⟨h4,h5⟩,h6⟩,h7⟩:=h2;split at h7
     ·rename_i c hc
      intro cs;have yn:Frame.enter P (num f) us.toArray .normal=({ (default:Frame) with fn:=num f,kind := .normal }:Frame).at { tmps:=us.toArray++Array.replicate (fn.ntmps-us.toArray.size) undef,defers:=[] } [.code c]:=by
       simp [Frame.enter,Frame.at,h1,hc]
      have v7:us.length=fa.ae:=by rw[<-hl];exact Ds
      have hf0:GS B S w0 m fn.ntmps (g7 (CR 0 vs)) m { tmps:=us.toArray++Array.replicate (fn.ntmps-us.toArray.size) undef,defers:=[] }:=by
       refine ⟨hm,DS.refl m,λ i => ?_,by simp;omega,rfl⟩;rw[xK];simp only[Nat.zero_le,if_true,Nat.sub_zero];cases Ek:vs[i]? with
       | none=>exact .any _
       | some v =>
        have hi:i<us.length:=by rw[<-hl];exact (zS Ek).1
        have n7:(us.toArray++Array.replicate (fn.ntmps-us.toArray.size) undef).getD i undef=us[i]:=by
         rw[Array.getD_eq_getD_getElem?,Array.getElem?_append_left (by simpa using hi)];simp [hi]
        simp only[n7];exact v9 i v us[i] Ek (zE hi)
      obtain ⟨a',m',m9,zn,iw,kj⟩:=Akr (m0:=m) hC { (default:Frame) with fn:=num f,kind := .normal } cs n [.code fa.body] ⟨CR 0 vs,own⟩ st q9 [.code c] (.code h7 .nil) m _ k6 hf0;obtain ⟨tt,zq,pt,Un⟩:=mX (P:=P) kj iw h6 gn;have uw:(results fn a'.tmps).run P m'.w = .ok (if h:tt.length=1 then tt[0] else .tuple tt.toArray) m'.w:=by
       have hr:results fn a'.tmps=(do let vs <-fn.results.mapM (dY a'.tmps);pure (if h:vs.size=1 then vs[0] else .tuple vs)):=rfl;rw[hr,Sem.run_bind,Array.mapM_eq_mapM_toList];simp [zq]
      refine ⟨.returned (if h:tt.length=1 then tt[0] else .tuple tt.toArray),m'.w,_,⟨_,m',rfl,rfl,iw,kj.mem,kj.ext,?_⟩,by rw[yn];exact zn,rfl,rfl,kj.defers,rfl,fn,h1,uw⟩;unfold I9;split
      ·rename_i v
       have nj:tt.length=1:=by rw[<-pt];rfl
       rw[dif_pos nj];exact .ca (Un 0 v tt[0] rfl (zE (by omega)))
      ·rename_i l9
       have nj : ¬ tt.length=1:=λ e=>by
        rw[<-pt]at e;cases Vu with
        | nil=>simp at e
        | cons q qs=>cases qs with
         | nil=>exact l9 q rfl
         | cons=>simp at e
       rw[dif_neg nj];exact .g8 Vu tt pt Un
     ·cases h7
    ·cases h
   ·cases h
  ·cases h
theorem AiZ (S:Nat->Prop) (w:World):BR w.heap.size S w ⟨λ_ _=>none,AJ.emp,w⟩ :=
 ⟨Below.refl _ _,Nat.le_refl _,λ_ _ _=>rfl,λ s t b h=>by simp [AJ.get,AJ.emp]at h,λ s t s' t' b b' g h=>by simp [AJ.get,AJ.emp]at h⟩
theorem tP {n f:Nat} {vs:List AV} {own:AJ} {r:AV × AJ} (h:D6 L n f vs own=some r) : ∃ fa,L f=some fa:=by
 cases n with
 | zero=>simp [D6]at h
 | succ n =>
  rw[YJ]at h;cases hL:L f with
  | none=>simp [hL]at h
  | some fa=>exact ⟨fa,rfl⟩
theorem mQ {n f:Nat} {vs:List AV} {r:AV} (h:JT (λ vs=>D6 L n f vs AJ.emp) vs=some r) : ∃ r0 o,D6 L n f vs AJ.emp=some (r0,o)/\TS o false r0=some r/\AZ r:=by
 unfold JT at h;cases he:D6 L n f vs AJ.emp with
 | none=>simp [he]at h
 | some x =>
  obtain ⟨r0,o⟩:=x;simp only[he]at h;split at h
  ·rename_i r' hr
   split at h
   ·rename_i hc
    simp only[Option.some.injEq]at h;subst h;exact ⟨r0,o,rfl,hr,hc⟩
   ·cases h
  ·cases h
theorem jP {n f:Nat} {vs:List AV} {r:AV} (h:ID L n f vs=some r) : ∃ ak,∃ x,D6 L n f ak AJ.emp=some x:=by
 unfold ID LS at h;split at h
 ·split at h
  ·rename_i r1 r2 h1 h2
   obtain ⟨r0,o,h3,_⟩:=mQ h1;exact ⟨_,_,h3⟩
  ·cases h
 ·obtain ⟨r0,o,h3,_⟩:=mQ h
  exact ⟨_,_,h3⟩
theorem mR (hP:ProgOK P num L) {n:Nat} (ih:H6 P num (DE L n)) {f:Nat} {vs:List AV} {r:AV} (h:JT (λ vs=>D6 L (n+1) f vs AJ.emp) vs=some r) (S:Nat->Prop) (w:World) (us:List Value) (hl:vs.length=us.length)
  (om : ∀ (j:Nat) (c:AV) (v:Value),vs[j]? = some c->us[j]? = some v->CA w.heap.size S ⟨λ_ _=>none,AJ.emp,w⟩ c v) :
  Calls P (num f) us.toArray w λ e w' => ∃ u,e = .returned u/\Below w.heap.size w w'/\CV w.heap.size S ⟨λ_ _=>none,AJ.emp,w'⟩ r u/\AZ r:=by
 obtain ⟨r0,o,h1,h2,h3⟩:=mQ (L:=L) h;refine Calls.mono (xM hP ih h1 w.heap.size S w ⟨λ_ _=>none,AJ.emp,w⟩ us rfl (AiZ S w) hl λ j c v hc hv => .ca (om j c v hc hv)) λ e w' ⟨u,m',he,hw,k6,jr,_,v9⟩ => ?_
 subst hw;refine ⟨u,he,jr.below,?_,h3⟩;refine DV.cv (m:=⟨λ_ _=>none,AJ.emp,m'.w⟩) (AkN jr false (safe w.heap.size S ⟨λ_ _=>none,AJ.emp,m'.w⟩) (λ l b hb hs => ?_) (λ s t g fi hg => ?_) (by rw[k6];exact h2) v9)
 ·rcases hs with h|⟨h,_⟩|h
  ·exact .inl h
  ·exact .inr (.inl ⟨h,λ s t fi=>by simp [AJ.get,AJ.emp]at fi⟩)
  ·exact .inr (.inr h)
 ·exact .inr (.inl ⟨(jr.ge fi hg).1,λ s t fi=>by simp [AJ.get,AJ.emp]at fi⟩)
theorem Aeb (hP:ProgOK P num L) : ∀ n,H6 P num (DE L n):=by
 intro n;induction n with
 | zero =>
  exact ⟨λ f vs r h=>by obtain ⟨ak,x,h1⟩:=jP (L:=L) (n:=0) (f:=f) (vs:=vs) (r:=r) h;simp [D6]at h1,λ f vs own r h=>by change D6 L 0 f vs own=some r at h;simp [D6]at h,
   λ f vs r h=>by obtain ⟨ak,x,h1⟩:=jP (L:=L) (n:=0) (f:=f) (vs:=vs) (r:=r) h;simp [D6]at h1,λ f vs own r l8 h=>by change D6 L 0 f vs own=_ at h;simp [D6]at h,hP.2⟩
 | succ n ih =>
  refine ⟨λ f vs r h us w => ?_,λ f vs own r h us w => ?_,λ f vs r h S w us hl om => ?_,λ f vs own r l8 h B S w0 m us k6 hm hl v9=>xM hP ih h B S w0 m us k6 hm hl v9,hP.2⟩
  ·obtain ⟨ak,x,h1⟩:=jP (L:=L) h
   obtain ⟨fa,hL⟩:=tP h1;exact qQ hP hL us w
  ·obtain ⟨fa,hL⟩:=tP (L:=L) h
   exact qQ hP hL us w
  ·have h:LS (L.ng f) (λ vs=>D6 L (n+1) f vs AJ.emp) vs=some r:=h
   unfold LS at h;split at h
   ·rename_i q ak _ _
    split at h
    ·rename_i r1 r2 h1 h2
     split at h
     ·rename_i e
      subst e;obtain rfl:=Option.some.inj h;cases us with
      | nil=>simp at hl
      | cons u us =>
       have h0:=om 0 _ u rfl rfl;have hu : ∃ a cap,u = .slice a 0 cap:=by
        cases h0 with
        | one h0=>cases h0 with
         | rd h0=>cases h0 with
          | gu l a cap=>exact ⟨a,cap,rfl⟩
          | sl l es b o b8 cap u l9=>exact absurd rfl l9
       obtain ⟨a,cap,rfl⟩:=hu;have key : ∀ b,a.isNone=b -> ∀ (j:Nat) (c:AV) (v:Value),(AV.aj (.bool b)::ak)[j]? = some c->(Value.slice a 0 cap::us)[j]? = some v->CA w.heap.size S ⟨λ_ _=>none,AJ.emp,w⟩ c v:=λ b hb j c v hc hv=>by
        cases j with
        | zero =>
         obtain rfl:=Option.some.inj hc;obtain rfl:=Option.some.inj hv;exact .one (.rd (.emp b a cap hb))
        | succ j=>exact om (j+1) c v hc hv
       cases hb:a.isNone with
       | true=>exact mR hP ih h1 S w _ (by simpa using hl) (key true hb)
       | false=>exact mR hP ih h2 S w _ (by simpa using hl) (key false hb)
     ·cases h
    ·cases h
   ·exact mR hP ih h S w us hl om
end
end Go.c6
namespace Go.c6
abbrev OkF (P : Program) (num : Nat → Nat) (p : Nat × AFn) : Prop := ∃ fn, P.funcs[num p.1]? = some fn ∧ okFn P num fn p.2 = true ∧ (fn.name == "runtime.NumGoroutine") = false
theorem AjM {P:Program} {num:Nat->Nat} (l:List (Nat × AFn)) (h : ∀ p∈l,OkF P num p):ProgOK P num ⟨λ f=>l.lookup f,num⟩:=by
 refine ⟨?_,rfl⟩;intro f fa hf;have hm:(f,fa)∈l:=by
  clear h;change l.lookup f=some fa at hf;induction l with
  | nil=>simp at hf
  | cons x r ih =>
   obtain ⟨k,v⟩:=x;rw[List.lookup_cons]at hf;cases hk:(f == k) with
   | true =>
    rw[hk]at hf;have:f=k:=by simpa using hk
    subst this;simp at hf;simp [hf]
   | false =>
    rw[hk]at hf;exact List.mem_cons_of_mem _ (ih hf)
 exact h (f,fa) hm
end Go.c6

namespace Go.c6
section
variable {L:Lib}
def Cl.le (C C':Cl):Prop:=(∀ f vs r,C.pure f vs=some r->C'.pure f vs=some r)/\(∀ f vs o r,C.fm f vs o=some r->C'.fm f vs o=some r)/\C.num=C'.num
theorem qB {x y:Option (AV × AJ)} {r:Nat × List (List AV)} (h : ∀ q,x=some q->y=some q) (hr:QV x=some r):QV y=some r:=by
 cases x with
 | none=>simp [QV]at hr
 | some q=>rw[h q rfl];exact hr
theorem Af0 {C C':Cl} (h:C.le C') {c4:List Nat} {ρ:AU->AV} {own:AJ} {op:EH} {E:CI} (he:e9 C c4 ρ own op=some E):e9 C' c4 ρ own op=some E:=by
 cases op with
 | call f xs =>
  simp only[e9]at he ⊢;split at he
  ·rename_i vs de
   simp only[Option.map_eq_some_iff]at he ⊢;obtain ⟨r,hr,rfl⟩:=he;exact ⟨r,h.1 f vs r hr,rfl⟩
  ·cases he
 | g6 f xs =>
  simp only[e9,Option.map_eq_some_iff]at he ⊢;obtain ⟨r,hr,rfl⟩:=he;exact ⟨r,h.2.1 f _ own r hr,rfl⟩
 | mf p f xs=>simp only[e9]at he ⊢;rw[<-h.2.2];exact he
 | aq s f xs =>
  simp only[e9,Option.map_eq_some_iff]at he ⊢;obtain ⟨p,hp,rfl⟩:=he;exact ⟨p,bI.2 λ o ho=>h.2.1 f _ o _ (bI.1 hp o ho),rfl⟩
 | o5 s f xs =>
  simp only[e9]at he ⊢;split at he
  ·rename_i vs de
   simp only[Option.map_eq_some_iff]at he ⊢;obtain ⟨r,hr,rfl⟩:=he;exact ⟨r,qB (h.2.1 f vs AJ.emp) hr,rfl⟩
  ·cases he
 | m5 f xs =>
  simp only[e9]at he ⊢;split at he
  ·rename_i hq
   rw[if_pos hq];split at he
   ·rename_i r hr
    rw[h.1 _ _ r hr];exact he
   ·cases he
  ·cases he
 | m8 x xs =>
  simp only[e9]at he ⊢;rw[<-h.2.2];split at he
  ·split at he
   ·rename_i hg
    rw[if_pos hg];split at he
    ·split at he
     ·rename_i vs de
      simp only[Option.map_eq_some_iff]at he ⊢;obtain ⟨r,hr,rfl⟩:=he;exact ⟨r,h.1 _ vs r hr,rfl⟩
     ·cases he
    ·simp only[Option.map_eq_some_iff]at he ⊢
     obtain ⟨r,hr,rfl⟩:=he;exact ⟨r,h.2.1 _ _ own r hr,rfl⟩
    ·split at he
     ·rename_i vs de
      simp only[Option.map_eq_some_iff]at he ⊢;obtain ⟨r,hr,rfl⟩:=he;exact ⟨r,h.1 _ vs r hr,rfl⟩
     ·cases he
   ·cases he
  ·cases he
 | _=>exact he
theorem AkW {C C':Cl} (h:C.le C') {o:AI} {st j8:St} (he:C1 C o st=some j8):C1 C' o st=some j8:=by
 unfold C1 at he ⊢;split at he
 ·simp only[Option.map_eq_some_iff]at he ⊢
  obtain ⟨E,h1,h2⟩:=he;exact ⟨E,Af0 h h1,h2⟩
 ·exact he
 ·exact he
theorem RM {C C':Cl} (h:C.le C') : ∀ {l:List AI} {st j8:St},DI C l st=some j8->DI C' l st=some j8
 | [],st,j8,he=>he
 | o::r,st,j8,he=>by
  simp only[DI]at he ⊢;cases hs:C1 C o st with
  | none=>simp [hs]at he
  | some A7 =>
   rw[AkW h hs];simp only[hs]at he;exact RM h he
theorem RH {C C':Cl} (h:C.le C') : ∀ {n n':Nat} {k:List It} {st j8:St},n<=n'->run C n k st=some j8->run C' n' k st=some j8:=by
 intro n;induction n with
 | zero=>intro n' k st j8 _ hr;simp [run]at hr
 | succ n ih =>
  intro n' k st j8 hn hr;obtain ⟨q,rfl⟩ : ∃ q,n'=q+1:=⟨n'-1,by omega⟩;have hq:n<=q:=by omega
  cases k with
  | nil=>exact hr
  | cons it k =>
   cases it with
   | e8 id=>simp only[run]at hr ⊢;exact ih hq hr
   | ln ts ss=>simp only[run]at hr ⊢;exact ih hq hr
   | lp c=>simp only[run]at hr ⊢;exact ih hq hr
   | code c =>
    cases c with
    | skip=>simp only[run]at hr ⊢;exact ih hq hr
    | ops l d =>
     simp only[run]at hr ⊢;cases hs:DI C l st with
     | none=>simp [hs]at hr
     | some A7 =>
      rw[RM h hs];simp only[hs]at hr;exact ih hq hr
    | dr c ts ss=>simp only[run]at hr ⊢;exact ih hq hr
    | scope c=>simp only[run]at hr ⊢;exact ih hq hr
    | seq a b=>simp only[run]at hr ⊢;exact ih hq hr
    | cond x a b =>
     simp only[run]at hr ⊢;split at hr
     ·exact ih hq hr
     ·exact ih hq hr
     ·cases hr
    | block id c=>simp only[run]at hr ⊢;exact ih hq hr
    | loop c=>simp only[run]at hr ⊢;exact ih hq hr
    | exit id =>
     simp only[run]at hr ⊢;split at hr
     ·exact ih hq hr
     ·cases hr
    | ret=>exact hr
theorem ZK {I I':List AV->Option (AV × AJ)} (hI : ∀ vs r,I vs=some r->I' vs=some r) {vs:List AV} {r:AV} (h:JT I vs=some r):JT I' vs=some r:=by
 unfold JT at h ⊢;cases he:I vs with
 | none=>simp [he]at h
 | some x=>rw[hI vs _ he];simpa [he] using h
theorem AjO {b:Bool} {I I':List AV->Option (AV × AJ)} (hI : ∀ vs r,I vs=some r->I' vs=some r) {vs:List AV} {r:AV} (h:LS b I vs=some r):LS b I' vs=some r:=by
 unfold LS at h ⊢;split at h
 ·split at h
  ·rename_i r1 r2 h1 h2
   rw[ZK hI h1,ZK hI h2];exact h
  ·cases h
 ·exact ZK hI h
theorem uF : ∀ (n:Nat),(DE L n).le (DE L (n+1)):=by
 have fm : ∀ n,(∀ f vs o r,D6 L n f vs o=some r->D6 L (n+1) f vs o=some r) -> ∀ f vs r,ID L n f vs=some r->ID L (n+1) f vs=some r:=by
  intro n hI f vs r h;exact AjO (λ vs r h=>hI f vs _ r h) h
 intro n;induction n with
 | zero =>
  have : ∀ f vs o r,D6 L 0 f vs o=some r->D6 L 1 f vs o=some r:=λ f vs o r h=>by simp [D6]at h
  exact ⟨fm 0 this,this,rfl⟩
 | succ n ih =>
  have : ∀ f vs o r,D6 L (n+1) f vs o=some r->D6 L (n+2) f vs o=some r:=λ f vs o r h=>by
   rw[YJ]at h ⊢;cases hL:L f with
   | none=>simp [hL]at h
   | some fn =>
    simp only[hL]at h ⊢;split at h
    ·rename_i hp
     rw[if_pos hp];cases hr:run (DE L n) n [.code fn.body] ⟨CR 0 vs,o⟩ with
     | none=>simp [hr]at h
     | some st =>
      rw[RH ih (Nat.le_succ n) hr];simpa [hr] using h
    ·cases h
  exact ⟨fm (n+1) this,this,rfl⟩
theorem GU {n n':Nat} (h:n<=n'):(DE L n).le (DE L n'):=by
 induction h with
 | refl=>exact ⟨λ_ _ _ h=>h,λ_ _ _ _ h=>h,rfl⟩
 | step _ ih=>exact ⟨λ f vs r h=>(uF _).1 f vs r (ih.1 f vs r h),λ f vs o r h=>(uF _).2.1 f vs o r (ih.2.1 f vs o r h),rfl⟩
def Ev (L:Lib) (f:Nat) (vs:List AV) (r:AV):Prop := ∃ n,ID L n f vs=some r
def G4 (L:Lib) (f:Nat) (vs:List AV) (r:AV):Prop := ∃ n,JT (λ vs=>D6 L n f vs AJ.emp) vs=some r
def HS (L:Lib) (f:Nat) (vs:List AV) (o:AJ) (r:AV) (o':AJ):Prop := ∃ n,D6 L n f vs o=some (r,o')
def KQ (L:Lib) (f:Nat) (vs:List AV) (z:Nat) (es:List (List AV)):Prop := ∃ n,QV (D6 L n f vs AJ.emp)=some (z,es)
theorem Ev.xn {f:Nat} {vs:List AV} {r r':AV} (h:Ev L f vs r) (h':Ev L f vs r'):r=r':=by
 obtain ⟨n,hn⟩:=h;obtain ⟨n',nx⟩:=h';have h1:=(GU (L:=L) (Nat.le_max_left n n')).1 f vs r hn;have h2:=(GU (L:=L) (Nat.le_max_right n n')).1 f vs r' nx;rw[h1]at h2;exact Option.some.inj h2
theorem HS.xn {f:Nat} {vs:List AV} {o:AJ} {r r':AV} {o1 o2:AJ} (h:HS L f vs o r o1) (h':HS L f vs o r' o2):r=r'/\o1=o2:=by
 obtain ⟨n,hn⟩:=h;obtain ⟨n',nx⟩:=h';have h1:=(GU (L:=L) (Nat.le_max_left n n')).2.1 f vs o _ hn;have h2:=(GU (L:=L) (Nat.le_max_right n n')).2.1 f vs o _ nx;rw[h1]at h2;simpa using h2
def AK (L:Lib) (k:List It) (st:St) (Q:St->Prop):Prop := ∃ n c j8,run (DE L c) n k st=some j8/\Q j8
def AO (L:Lib) (l:List AI) (k:List It) (st:St) (Q:St->Prop):Prop := ∃ n c A7 j8,DI (DE L c) l st=some A7/\run (DE L c) n k A7=some j8/\Q j8
variable {k:List It} {st:St} {Q:St->Prop}
theorem LF {it:It} {k':List It} {A7:St} (h : ∀ (C:Cl) (n:Nat),run C (n+1) (it::k) st=run C n k' A7):AK L (it::k) st Q↔AK L k' A7 Q:=by
 constructor
 ·rintro ⟨n,c,j8,hr,hq⟩
  cases n with
  | zero=>simp [run]at hr
  | succ n=>exact ⟨n,c,j8,by rw[<-h];exact hr,hq⟩
 ·rintro ⟨n,c,j8,hr,hq⟩
  exact ⟨n+1,c,j8,by rw[h];exact hr,hq⟩
theorem Xv:AK L [] st Q↔Q st:=by
 constructor
 ·rintro ⟨n,c,j8,hr,hq⟩
  cases n with
  | zero=>simp [run]at hr
  | succ n=>simp only[run,Option.some.injEq]at hr;exact hr ▸ hq
 ·exact λ h=>⟨1,0,st,rfl,h⟩
theorem Xm {id:Nat}:AK L (.e8 id::k) st Q↔AK L k st Q:=LF λ_ _=>rfl
theorem Xq {ts ss:List Nat}:AK L (.ln ts ss::k) st Q↔AK L k ⟨y9 st.tm ts,st.own.drop ss⟩ Q:=LF λ_ _=>rfl
theorem oV {c:BG}:AK L (.lp c::k) st Q↔AK L (.code c :: .lp c::k) st Q:=LF λ_ _=>rfl
theorem Ya:AK L (.code .skip::k) st Q↔AK L k st Q:=LF λ_ _=>rfl
theorem Xp {c:BG} {ts ss:List Nat}:AK L (.code (.dr c ts ss)::k) st Q↔AK L (.code c :: .ln ts ss::k) st Q:=LF λ_ _=>rfl
theorem Xy {c:BG}:AK L (.code (.scope c)::k) st Q↔AK L (.code c::k) st Q:=LF λ_ _=>rfl
theorem Xz {a b:BG}:AK L (.code (.seq a b)::k) st Q↔AK L (.code a :: .code b::k) st Q:=LF λ_ _=>rfl
theorem Xn {id:Nat} {c:BG}:AK L (.code (.block id c)::k) st Q↔AK L (.code c :: .e8 id::k) st Q:=LF λ_ _=>rfl
theorem Xt {c:BG}:AK L (.code (.loop c)::k) st Q↔AK L (.code c :: .lp c::k) st Q:=LF λ_ _=>rfl
theorem Xr {id:Nat} {k':List It} (h:GP id k=some k'):AK L (.code (.exit id)::k) st Q↔AK L k' st Q:=LF λ C n=>by simp [run,h]
theorem Xx:AK L (.code .ret::k) st Q↔Q st:=by
 constructor
 ·rintro ⟨n,c,j8,hr,hq⟩
  cases n with
  | zero=>simp [run]at hr
  | succ n=>simp only[run,Option.some.injEq]at hr;exact hr ▸ hq
 ·exact λ h=>⟨1,0,st,rfl,h⟩
theorem Xo {x:AU} {a b:BG} {t:Bool} (h:st.ev x = .bool t):AK L (.code (.cond x a b)::k) st Q↔if t=true then AK L (.code a::k) st Q else AK L (.code b::k) st Q:=by
 cases t
 ·simpa using LF (k' := .code b::k) (A7:=st) λ C n=>by simp [run,h]
 ·simpa using LF (k' := .code a::k) (A7:=st) λ C n=>by simp [run,h]
theorem Xw {l:List AI} {d:Bool}:AK L (.code (.ops l d)::k) st Q↔AO L l k st Q:=by
 constructor
 ·rintro ⟨n,c,j8,hr,hq⟩
  cases n with
  | zero=>simp [run]at hr
  | succ n =>
   simp only[run]at hr;split at hr
   ·rename_i A7 hs
    exact ⟨n,c,A7,j8,hs,hr,hq⟩
   ·cases hr
 ·rintro ⟨n,c,A7,j8,hs,hr,hq⟩
  exact ⟨n+1,c,j8,by simp [run,hs,hr],hq⟩
theorem Wl:AO L [] k st Q↔AK L k st Q:=by
 constructor
 ·rintro ⟨n,c,A7,j8,hs,hr,hq⟩
  simp only[DI,Option.some.injEq]at hs;exact ⟨n,c,j8,hs ▸ hr,hq⟩
 ·rintro ⟨n,c,j8,hr,hq⟩
  exact ⟨n,c,st,j8,rfl,hr,hq⟩
theorem Wo {o:AI} {l:List AI} {A7:St} (h : ∀ C,C1 C o st=some A7):AO L (o::l) k st Q↔AO L l k A7 Q:=by
 constructor
 ·rintro ⟨n,c,BM,j8,hs,hr,hq⟩
  simp only[DI,h]at hs;exact ⟨n,c,BM,j8,hs,hr,hq⟩
 ·rintro ⟨n,c,BM,j8,hs,hr,hq⟩
  exact ⟨n,c,BM,j8,by simpa only[DI,h] using hs,hr,hq⟩
theorem Wm {d:Option Nat} {op:EH} {g:Option (Nat × Bool)} {c4:List Nat} {l:List AI} (h:GQ st g=some false):AO L (⟨d,op,g,c4⟩::l) k st Q↔AO L l k (st.dst d (.g8 [])) Q :=
 Wo λ C=>by simp [C1,h]
theorem V5 (c:Nat):(DE L c).num=L.num:=rfl
theorem Wn {d:Option Nat} {op:EH} {g:Option (Nat × Bool)} {c4:List Nat} {l:List AI} {E:CI} (h:GQ st g=some true) (he : ∀ c,e9 (DE L c) c4 st.ev st.own op=some E):AO L (⟨d,op,g,c4⟩::l) k st Q↔AO L l k (st.app d E) Q:=by
 have h : ∀ c,C1 (DE L c) ⟨d,op,g,c4⟩ st=some (st.app d E):=λ c=>by simp [C1,h,he]
 constructor
 ·rintro ⟨n,c,BM,j8,hs,hr,hq⟩
  simp only[DI,h]at hs;exact ⟨n,c,BM,j8,hs,hr,hq⟩
 ·rintro ⟨n,c,BM,j8,hs,hr,hq⟩
  exact ⟨n,c,BM,j8,by simpa only[DI,h] using hs,hr,hq⟩
theorem Yb {d:Option Nat} {f:Nat} {xs:List AU} {g:Option (Nat × Bool)} {c4:List Nat} {l:List AI} {vs:List AV} {r:AV} (h:GQ st g=some true) (hv:(xs.map st.ev).mapM (C0 (st.own.m7 c4) true)=some vs) (hr:Ev L f vs r) :
  AO L (⟨d,.call f xs,g,c4⟩::l) k st Q↔AO L l k (st.dst d r) Q:=by
 have k7 : ∀ c r',ID L c f vs=some r'->C1 (DE L c) ⟨d,.call f xs,g,c4⟩ st=some (st.dst d r'):=λ c r' hc=>by
  have s9:(DE L c).pure f vs=some r':=hc;simp [C1,h,e9,hv,s9,St.app]
 constructor
 ·rintro ⟨n,c,BM,j8,hs,dm,hq⟩
  simp only[DI]at hs;cases hI:C1 (DE L c) ⟨d,.call f xs,g,c4⟩ st with
  | none=>simp [hI]at hs
  | some A7 =>
   simp only[hI]at hs;cases hp:ID L c f vs with
   | none =>
    have s9:(DE L c).pure f vs=none:=hp;simp [C1,h,e9,hv,s9]at hI
   | some r' =>
    obtain rfl:r'=r:=Ev.xn ⟨c,hp⟩ hr;rw[k7 c r' hp]at hI;obtain rfl:=Option.some.inj hI;exact ⟨n,c,BM,j8,hs,dm,hq⟩
 ·rintro ⟨n,c,BM,j8,hs,dm,hq⟩
  obtain ⟨c',s9⟩:=hr;have l1:=GU (L:=L) (Nat.le_max_left c c');have l2:=GU (L:=L) (Nat.le_max_right c c');refine ⟨n,max c c',BM,j8,?_,RH l1 (Nat.le_refl n) dm,hq⟩;simp only[DI];rw[k7 (max c c') r (l2.1 f vs r s9)];exact RM l1 hs
theorem Ye {d:Option Nat} {f:Nat} {x:AU} {xs:List AU} {g:Option (Nat × Bool)} {c4:List Nat} {l:List AI} {vs:List AV} {r:AV} (h:GQ st g=some true) (hx:st.ev x = .fn true f (L.num f) []) (hv:(xs.map st.ev).mapM (C0 st.own true)=some vs) (hr:Ev L f vs r) :
  AO L (⟨d,.m8 x xs,g,c4⟩::l) k st Q↔AO L l k (st.dst d r) Q:=by
 have k7 : ∀ c r',ID L c f vs=some r'->C1 (DE L c) ⟨d,.m8 x xs,g,c4⟩ st=some (st.dst d r'):=λ c r' hc=>by
  have s9:(DE L c).pure f vs=some r':=hc;simp [C1,h,e9,hx,V5,hv,s9,St.app]
 constructor
 ·rintro ⟨n,c,BM,j8,hs,dm,hq⟩
  simp only[DI]at hs;cases hI:C1 (DE L c) ⟨d,.m8 x xs,g,c4⟩ st with
  | none=>simp [hI]at hs
  | some A7 =>
   simp only[hI]at hs;cases hp:ID L c f vs with
   | none =>
    have s9:(DE L c).pure f vs=none:=hp;simp [C1,h,e9,hx,V5,hv,s9]at hI
   | some r' =>
    obtain rfl:r'=r:=Ev.xn ⟨c,hp⟩ hr;rw[k7 c r' hp]at hI;obtain rfl:=Option.some.inj hI;exact ⟨n,c,BM,j8,hs,dm,hq⟩
 ·rintro ⟨n,c,BM,j8,hs,dm,hq⟩
  obtain ⟨c',s9⟩:=hr;have l1:=GU (L:=L) (Nat.le_max_left c c');have l2:=GU (L:=L) (Nat.le_max_right c c');refine ⟨n,max c c',BM,j8,?_,RH l1 (Nat.le_refl n) dm,hq⟩;simp only[DI];rw[k7 (max c c') r (l2.1 f vs r s9)];exact RM l1 hs
theorem Yc {d:Option Nat} {f:Nat} {w:AV} {cs:List AV} {x:AU} {xs:List AU} {g:Option (Nat × Bool)} {c4:List Nat} {l:List AI} {vs:List AV} {r:AV} (h:GQ st g=some true) (hx:st.ev x = .fn true f (L.num f) (w::cs)) (hv:(AV.agg (w::cs)::xs.map st.ev).mapM (C0 st.own true)=some vs) (hr:Ev L f vs r) :
  AO L (⟨d,.m8 x xs,g,c4⟩::l) k st Q↔AO L l k (st.dst d r) Q:=by
 have k7 : ∀ c r',ID L c f vs=some r'->C1 (DE L c) ⟨d,.m8 x xs,g,c4⟩ st=some (st.dst d r'):=λ c r' hc=>by
  have s9:(DE L c).pure f vs=some r':=hc;simp [C1,h,e9,hx,V5,hv,s9,St.app]
 constructor
 ·rintro ⟨n,c,BM,j8,hs,dm,hq⟩
  simp only[DI]at hs;cases hI:C1 (DE L c) ⟨d,.m8 x xs,g,c4⟩ st with
  | none=>simp [hI]at hs
  | some A7 =>
   simp only[hI]at hs;cases hp:ID L c f vs with
   | none =>
    have s9:(DE L c).pure f vs=none:=hp;simp [C1,h,e9,hx,V5,hv,s9]at hI
   | some r' =>
    obtain rfl:r'=r:=Ev.xn ⟨c,hp⟩ hr;rw[k7 c r' hp]at hI;obtain rfl:=Option.some.inj hI;exact ⟨n,c,BM,j8,hs,dm,hq⟩
 ·rintro ⟨n,c,BM,j8,hs,dm,hq⟩
  obtain ⟨c',s9⟩:=hr;have l1:=GU (L:=L) (Nat.le_max_left c c');have l2:=GU (L:=L) (Nat.le_max_right c c');refine ⟨n,max c c',BM,j8,?_,RH l1 (Nat.le_refl n) dm,hq⟩;simp only[DI];rw[k7 (max c c') r (l2.1 f vs r s9)];exact RM l1 hs
theorem Yf {d:Option Nat} {f:Nat} {xs:List AU} {g:Option (Nat × Bool)} {c4:List Nat} {l:List AI} {r:AV} (h:GQ st g=some true) (hq:(xs.map st.ev).all dq=true) (hr:Ev L f ((xs.map st.ev).map tn) r) (fq:JG r\/T3 r) :
  AO L (⟨d,.m5 f xs,g,c4⟩::l) k st Q↔AO L l k (st.dst d (MV r)) Q:=by
 have k7 : ∀ c,ID L c f ((xs.map st.ev).map tn)=some r->C1 (DE L c) ⟨d,.m5 f xs,g,c4⟩ st=some (st.dst d (MV r)):=λ c hc=>by
  have s9:(DE L c).pure f ((xs.map st.ev).map tn)=some r:=hc;simp only[C1,h,e9];rw[if_pos hq,s9];simp only[if_pos fq,Option.map_some,St.app]
 constructor
 ·rintro ⟨n,c,BM,j8,hs,dm,Au⟩
  simp only[DI]at hs;cases hp:ID L c f ((xs.map st.ev).map tn) with
  | none =>
   have s9:(DE L c).pure f ((xs.map st.ev).map tn)=none:=hp;simp only[C1,h,e9]at hs;rw[if_pos hq,s9]at hs;simp at hs
  | some r' =>
   obtain rfl:r'=r:=Ev.xn ⟨c,hp⟩ hr;rw[k7 c hp]at hs;exact ⟨n,c,BM,j8,hs,dm,Au⟩
 ·rintro ⟨n,c,BM,j8,hs,dm,Au⟩
  obtain ⟨c',s9⟩:=hr;have l1:=GU (L:=L) (Nat.le_max_left c c');have l2:=GU (L:=L) (Nat.le_max_right c c');refine ⟨n,max c c',BM,j8,?_,RH l1 (Nat.le_refl n) dm,Au⟩;simp only[DI];rw[k7 (max c c') (l2.1 f _ r s9)];exact RM l1 hs
theorem Yg {d:Option Nat} {s f:Nat} {xs:List AU} {g:Option (Nat × Bool)} {c4:List Nat} {l:List AI} {vs:List AV} {z:Nat} {es:List (List AV)} (h:GQ st g=some true) (hv:(xs.map st.ev).mapM (RK (st.own.m7 c4) true)=some vs) (hr:KQ L f vs z es)
  (ha:AO L l k (st.app d (.new s ⟨z,es⟩ (λ t => .row s t z 0 es.length))) Q):AO L (⟨d,.o5 s f xs,g,c4⟩::l) k st Q:=by
 obtain ⟨n,c,BM,j8,hs,dm,hq⟩:=ha;obtain ⟨c',s9⟩:=hr;have l1:=GU (L:=L) (Nat.le_max_left c c');have l2:=GU (L:=L) (Nat.le_max_right c c');have qo:QV ((DE L (max c c')).fm f vs AJ.emp)=some (z,es):=qB (l2.2.1 f vs AJ.emp) s9;refine ⟨n,max c c',BM,j8,?_,RH l1 (Nat.le_refl n) dm,hq⟩;simp only[DI];have:C1 (DE L (max c c')) ⟨d,.o5 s f xs,g,c4⟩ st=some (st.app d (.new s ⟨z,es⟩ (λ t => .row s t z 0 es.length))):=by
  simp only[C1,h,e9,hv,qo,Option.map_some]
 rw[this];exact RM l1 hs
def pA (L:Lib) (s f:Nat) (vs:List AV) (q:CF) (r:AV) (q':CF):Prop := ∃ n,∀ o:AJ,o s=q->D6 L n f vs o=some (r,o.put s q')
theorem Wk {d:Option Nat} {s f:Nat} {xs:List AU} {g:Option (Nat × Bool)} {c4:List Nat} {l:List AI} {r:AV} {q':CF} (h:GQ st g=some true) (hr:pA L s f (xs.map st.ev) (st.own s) r q')
  (ha:AO L l k (st.app d (.tp s q' r)) Q):AO L (⟨d,.aq s f xs,g,c4⟩::l) k st Q:=by
 obtain ⟨n,c,BM,j8,hs,dm,hq⟩:=ha;obtain ⟨c',s9⟩:=hr;have l1:=GU (L:=L) (Nat.le_max_left c c');have l2:=GU (L:=L) (Nat.le_max_right c c');have qo:bH (DE L (max c c')) f (xs.map st.ev) s (st.own s)=some (r,q'):=bI.2 λ o ho=>l2.2.1 f _ o _ (s9 o ho)
 refine ⟨n,max c c',BM,j8,?_,RH l1 (Nat.le_refl n) dm,hq⟩;simp only[DI];have:C1 (DE L (max c c')) ⟨d,.aq s f xs,g,c4⟩ st=some (st.app d (.tp s q' r)):=by
  simp only[C1,h,e9,qo,Option.map_some]
 rw[this];exact RM l1 hs
theorem Yd {d:Option Nat} {f:Nat} {xs:List AU} {g:Option (Nat × Bool)} {c4:List Nat} {l:List AI} {r:AV} {o':AJ} (h:GQ st g=some true) (hr:HS L f (xs.map st.ev) st.own r o') :
  AO L (⟨d,.g6 f xs,g,c4⟩::l) k st Q↔AO L l k { (st.dst d r) with own:=o' } Q:=by
 have k7 : ∀ c r' o1,D6 L c f (xs.map st.ev) st.own=some (r',o1)->C1 (DE L c) ⟨d,.g6 f xs,g,c4⟩ st=some { (st.dst d r') with own:=o1 }:=λ c r' o1 hc=>by
  have s9:(DE L c).fm f (xs.map st.ev) st.own=some (r',o1):=hc;simp [C1,h,e9,s9,St.app]
 constructor
 ·rintro ⟨n,c,BM,j8,hs,dm,hq⟩
  simp only[DI]at hs;cases hI:C1 (DE L c) ⟨d,.g6 f xs,g,c4⟩ st with
  | none=>simp [hI]at hs
  | some A7 =>
   simp only[hI]at hs;cases hp:D6 L c f (xs.map st.ev) st.own with
   | none =>
    have s9:(DE L c).fm f (xs.map st.ev) st.own=none:=hp;simp [C1,h,e9,s9]at hI
   | some x =>
    obtain ⟨r',o1⟩:=x;obtain ⟨rfl,rfl⟩:=HS.xn ⟨c,hp⟩ hr;rw[k7 c r' o1 hp]at hI;obtain rfl:=Option.some.inj hI;exact ⟨n,c,BM,j8,hs,dm,hq⟩
 ·rintro ⟨n,c,BM,j8,hs,dm,hq⟩
  obtain ⟨c',s9⟩:=hr;have l1:=GU (L:=L) (Nat.le_max_left c c');have l2:=GU (L:=L) (Nat.le_max_right c c');refine ⟨n,max c c',BM,j8,?_,RH l1 (Nat.le_refl n) dm,hq⟩;simp only[DI];rw[k7 (max c c') r o' (l2.2.1 f _ _ _ s9)];exact RM l1 hs
theorem Wj {d:Option Nat} {f:Nat} {cs:List AV} {x:AU} {xs:List AU} {g:Option (Nat × Bool)} {c4:List Nat} {l:List AI} {r:AV} {o':AJ} (h:GQ st g=some true) (hx:st.ev x = .fn false f (L.num f) cs) (hr:HS L f (xs.map st.ev++cs) st.own r o') :
  AO L (⟨d,.m8 x xs,g,c4⟩::l) k st Q↔AO L l k { (st.dst d r) with own:=o' } Q:=by
 have k7 : ∀ c r' o1,D6 L c f (xs.map st.ev++cs) st.own=some (r',o1)->C1 (DE L c) ⟨d,.m8 x xs,g,c4⟩ st=some { (st.dst d r') with own:=o1 }:=λ c r' o1 hc=>by
  have s9:(DE L c).fm f (xs.map st.ev++cs) st.own=some (r',o1):=hc;simp [C1,h,e9,hx,V5,s9,St.app]
 constructor
 ·rintro ⟨n,c,BM,j8,hs,dm,hq⟩
  simp only[DI]at hs;cases hI:C1 (DE L c) ⟨d,.m8 x xs,g,c4⟩ st with
  | none=>simp [hI]at hs
  | some A7 =>
   simp only[hI]at hs;cases hp:D6 L c f (xs.map st.ev++cs) st.own with
   | none =>
    have s9:(DE L c).fm f (xs.map st.ev++cs) st.own=none:=hp;simp [C1,h,e9,hx,V5,s9]at hI
   | some x =>
    obtain ⟨r',o1⟩:=x;obtain ⟨rfl,rfl⟩:=HS.xn ⟨c,hp⟩ hr;rw[k7 c r' o1 hp]at hI;obtain rfl:=Option.some.inj hI;exact ⟨n,c,BM,j8,hs,dm,hq⟩
 ·rintro ⟨n,c,BM,j8,hs,dm,hq⟩
  obtain ⟨c',s9⟩:=hr;have l1:=GU (L:=L) (Nat.le_max_left c c');have l2:=GU (L:=L) (Nat.le_max_right c c');refine ⟨n,max c c',BM,j8,?_,RH l1 (Nat.le_refl n) dm,hq⟩;simp only[DI];rw[k7 (max c c') r o' (l2.2.1 f _ _ _ s9)];exact RM l1 hs
theorem Xu {Q':St->Prop} (h:AK L k st Q) (hq : ∀ s,Q s->Q' s):AK L k st Q':=by
 obtain ⟨n,c,j8,hr,hh⟩:=h;exact ⟨n,c,j8,hr,hq _ hh⟩
theorem HS.intro {f:Nat} {fn:AFn} {vs:List AV} {o:AJ} {r:AV} {o':AJ} (hL:L f=some fn) (hp:vs.length=fn.ae) (h:AK L [.code fn.body] ⟨CR 0 vs,o⟩ (λ st=>(fn.res.mapM (F9 st)).map I9=some r/\st.own=o')):HS L f vs o r o':=by
 obtain ⟨n,c,j8,hr,h1,h2⟩:=h;refine ⟨max n c+1,?_⟩;rw[YJ];simp only[hL,hp,if_true];rw[RH (GU (L:=L) (Nat.le_max_right n c)) (Nat.le_max_left n c) hr];cases hm:fn.res.mapM (F9 j8) with
 | none=>rw[hm]at h1;cases h1
 | some rs =>
  rw[hm]at h1;simp only[Option.map_some,Option.some.injEq]at h1;simp [hm,h1,h2]
theorem G4.intro {f:Nat} {fn:AFn} {vs:List AV} {r:AV} (hL:L f=some fn) (hp:vs.length=fn.ae) (h:AK L [.code fn.body] ⟨CR 0 vs,AJ.emp⟩ (λ st=>((fn.res.mapM (F9 st)).map I9).bind (TS st.own false)=some r/\AZ r)):G4 L f vs r:=by
 obtain ⟨n,c,j8,hr,h1,h2⟩:=h;cases hm:(fn.res.mapM (F9 j8)).map I9 with
 | none=>rw[hm]at h1;cases h1
 | some r0 =>
  rw[hm]at h1;simp only[Option.bind_some]at h1;obtain ⟨q,hq⟩:=HS.intro (o:=AJ.emp) (r:=r0) (o':=j8.own) hL hp ⟨n,c,j8,hr,hm,rfl⟩;refine ⟨q,?_⟩;unfold JT;simp [hq,h1,h2]
theorem G4.ev {f:Nat} {fn:AFn} {vs:List AV} {r:AV} (hL:L f=some fn) (h:G4 L f vs r) (hs:fn.ng=false:=by rfl):Ev L f vs r:=by
 obtain ⟨n,h⟩:=h;have hs:L.ng f=false:=by simp only[Lib.ng,hL,hs]
 exact ⟨n,by unfold ID LS;rw[hs];exact h⟩
theorem G4.cons {f:Nat} {q:Bool} {e:List AV} {es:List (List AV)} {vs:List AV} {r:AV} (h:G4 L f (.sl q (e::es)::vs) r):Ev L f (.sl q (e::es)::vs) r:=by
 obtain ⟨n,h⟩:=h;refine ⟨n,?_⟩;unfold ID LS;split
 ·rename_i heq;simp at heq
 ·exact h
theorem G4.nil {f:Nat} {fn:AFn} {q:Bool} {vs:List AV} {r:AV} (hL:L f=some fn) (h1:G4 L f (.aj (.bool true)::vs) r) (h2:G4 L f (.aj (.bool false)::vs) r) (hs:fn.ng=true:=by rfl):Ev L f (.sl q []::vs) r:=by
 obtain ⟨n,h1⟩:=h1;obtain ⟨n',h2⟩:=h2;have hs:L.ng f=true:=by simp only[Lib.ng,hL,hs]
 have k1:=ZK (λ vs r h=>(GU (L:=L) (Nat.le_max_left n n')).2.1 f vs AJ.emp r h) h1;have k2:=ZK (λ vs r h=>(GU (L:=L) (Nat.le_max_right n n')).2.1 f vs AJ.emp r h) h2;refine ⟨max n n',?_⟩;unfold ID LS;rw[hs];simp only;have k1':JT (λ vs=>D6 L (max n n') f vs AJ.emp) (.aj (.bool true)::vs)=some r:=k1;have k2':JT (λ vs=>D6 L (max n n') f vs AJ.emp) (.aj (.bool false)::vs)=some r:=k2;rw[k1',k2'];simp
theorem Ev.intro {f:Nat} {fn:AFn} {vs:List AV} {r:AV} (hL:L f=some fn) (hp:vs.length=fn.ae) (h:AK L [.code fn.body] ⟨CR 0 vs,AJ.emp⟩ (λ st=>((fn.res.mapM (F9 st)).map I9).bind (TS st.own false)=some r/\AZ r)) (hs:fn.ng=false:=by rfl):Ev L f vs r :=
 (G4.intro hL hp h).ev hL hs
end
end Go.c6

namespace Go.c6
section
variable {L:Lib} {k:List It} {tm:Tm} {own:AJ} {Q:St->Prop} {l:List AI} {c4:List Nat} {d:Nat}
theorem Z8 (i:Nat) (v:AV) (r:Tm) (j:Nat):g7 ((i,v)::r) j=if j=i then v else g7 r j:=rfl
theorem All (j:Nat):g7 [] j = .any:=rfl
theorem Alg (i:Nat) (v:AV) (r:Tm) (l:List Nat):y9 ((i,v)::r) l=if l.contains i then y9 r l else (i,v)::y9 r l:=rfl
theorem Alh (l:List Nat):y9 [] l=[]:=rfl
theorem Aig (i:Nat) (v:AV) (r:List AV):CR i (v::r)=(i,v)::CR (i+1) r:=rfl
end
end Go.c6

namespace Go.c6
section
variable {L:Lib} {k:List It} {tm:Tm} {own:AJ} {st:St} {Q:St->Prop} {l:List AI} {c4:List Nat} {d:Nat} {dst:Option Nat}
section
variable {x y:AU} {kd:IntKind} {a b:Int}
end
def XX (fn:AFn) (r:AV) (st:St):Prop:=((fn.res.mapM (F9 st)).map I9).bind (TS st.own false)=some r/\AZ r
theorem Ev.fwd {f:Nat} {fn:AFn} {vs:List AV} {r:AV} (hL:L f=some fn) (hp:vs.length=fn.ae) (h:AK L [.code fn.body] ⟨CR 0 vs,AJ.emp⟩ (XX fn r)) (hs:fn.ng=false:=by rfl):Ev L f vs r:=Ev.intro hL hp h hs
theorem G4.fwd {f:Nat} {fn:AFn} {vs:List AV} {r:AV} (hL:L f=some fn) (hp:vs.length=fn.ae) (h:AK L [.code fn.body] ⟨CR 0 vs,AJ.emp⟩ (XX fn r)):G4 L f vs r:=G4.intro hL hp h
end
attribute [irreducible] XX
end Go.c6

namespace Go.c6
def pw (n:Int):Int:=2^n.toNat
theorem E0 (n:Int):1<=pw n:=by
 have:0<pw n:=Int.pow_pos (by decide)
 omega
theorem K0 {n m:Int} (h:n<=m):pw n<=pw m:=by
 unfold pw;have h':n.toNat<=m.toNat:=by omega
 have h2:=Nat.pow_le_pow_right (n:=2) (by decide) h';have h3:((2^n.toNat:Nat):Int)<=((2^m.toNat:Nat):Int):=by exact_mod_cast h2
 simpa using h3
theorem dV {n:Int} (h:n<=62):pw n<=4611686018427387904:=K0 (m:=62) h
theorem dW {n:Int} (h:1<=n):pw n=2*pw (n-1):=by
 unfold pw;have e:n.toNat=(n-1).toNat+1:=by omega
 rw[e,Int.pow_succ,Int.mul_comm]
theorem Oe:pw 0=1:=rfl
theorem Pb {a:Int} (h:0<=a) (h':a<=9223372036854775807):IntKind.i64.wrap a=a:=IntWalk.i64_in _ ⟨by omega,h'⟩
theorem AkE {k2:IntKind} {n:Int} (h:0<=n/\n<=62):C4 .shl .i64 1 k2 n=some (.int .i64 (pw n)):=by
 have h1:=dV h.2;have h2:=E0 n;have e:(1:Int)*2^(min n.toNat IntKind.i64.bits)=pw n:=by
  have:min n.toNat IntKind.i64.bits=n.toNat:=by simp only[IntKind.bits];omega
  rw[this,Int.one_mul];rfl
 simp only[C4];rw[if_neg (by omega),e,Pb (by omega) (by omega)]
theorem AkF {k2:IntKind} {a n:Int} (h:0<=n/\n<=63):C4 .shr .i64 a k2 n=some (.int .i64 (a/pw n)):=by
 have h2:=E0 n;have e:(2:Int)^(min n.toNat IntKind.i64.bits)=pw n:=by
  have:min n.toNat IntKind.i64.bits=n.toNat:=by simp only[IntKind.bits];omega
  rw[this];rfl
 simp only[C4];rw[if_neg (by omega),e,Int.fdiv_eq_ediv_of_nonneg _ (by omega)]
theorem qD {a p n:Int} (hp:p=pw n) (h:0<=n/\n<=62):C4 .and .i64 a .i64 (p-1)=some (.int .i64 (a%p)):=by
 have h1:=dV h.2;have h2:=E0 n;simp only[C4,if_true];have hn:n.toNat<=64:=by omega
 have e0:pw n=((2^n.toNat:Nat):Int):=by simp [pw]
 have e1:(BitVec.ofInt IntKind.i64.bits (p-1)).toNat=2^n.toNat-1:=by
  have hq:(2:Nat)^n.toNat<=4611686018427387904:=by
   have:((2^n.toNat:Nat):Int)<=4611686018427387904:=by rw[<-e0];exact h1
   omega
  rw[BitVec.toNat_ofInt];simp only[IntKind.bits];rw[hp,e0];have hz:1<=2^n.toNat:=Nat.one_le_two_pow;omega
 have e2:(BitVec.ofInt IntKind.i64.bits a).toNat=(a%18446744073709551616).toNat:=by
  rw[BitVec.toNat_ofInt];rfl
 have e3:((a%18446744073709551616).toNat%2^n.toNat:Nat)=(a%pw n).toNat:=by
  have hd:(pw n) ∣ 18446744073709551616:=by
   refine ⟨2^(64-n.toNat),?_⟩;unfold pw;rw[<-Int.pow_add,show n.toNat+(64-n.toNat)=64 by omega];rfl
  have h3:(a%18446744073709551616)%pw n=a%pw n:=Int.emod_emod_of_dvd a hd;have h4:(((a%18446744073709551616).toNat%2^n.toNat:Nat):Int)=(a%18446744073709551616)%pw n:=by
   rw[Int.natCast_emod,<-e0,Int.toNat_of_nonneg (by omega)]
  have h5:0<=a%pw n:=Int.emod_nonneg _ (by omega);omega
 have h5:0<=a%pw n:=Int.emod_nonneg _ (by omega);have h6:a%pw n<pw n:=Int.emod_lt_of_pos _ (by omega);rw[BitVec.toNat_and,e1,Nat.and_two_pow_sub_one_eq_mod,e2,e3,hp,Int.toNat_of_nonneg h5,Pb h5 (by omega)]
theorem Zc {a:Int}:C4 .and .i64 a .i64 1=some (.int .i64 (a%2)):=qD (p:=2) (n:=1) rfl ⟨by decide,by decide⟩
theorem Pn {a m:Int} (hm:0<m):a.tmod m=if 0<=a\/a%m=0 then a%m else a%m-m:=by
 have h:=Int.tmod_eq_emod (a:=a) (b:=m);rw[h];have hd:m ∣ a↔a%m=0:=Int.dvd_iff_emod_eq_zero;by_cases h0:0<=a\/a%m=0
 ·rw[if_pos h0,if_pos (by rcases h0 with h0|h0;exact Or.inl h0;exact Or.inr (hd.2 h0))];omega
 ·rw[if_neg h0,if_neg (λ h=>h0 (h.imp id hd.1))]
  have:(m.natAbs:Int)=m:=by omega
  omega
theorem Pj {a m:Int} (hm:0<m):a.tdiv m=if 0<=a\/a%m=0 then a/m else a/m+1:=by
 have h:=Int.tdiv_eq_ediv (a:=a) (b:=m);rw[h];have hd:m ∣ a↔a%m=0:=Int.dvd_iff_emod_eq_zero;by_cases h0:0<=a\/a%m=0
 ·rw[if_pos h0,if_pos (by rcases h0 with h0|h0;exact Or.inl h0;exact Or.inr (hd.2 h0))];omega
 ·rw[if_neg h0,if_neg (λ h=>h0 (h.imp id hd.1)),Int.sign_eq_one_of_pos hm]
theorem AfX {a m:Int} (hm:1<=m) (h : -9223372036854775808<=a/\a<=9223372036854775807) : -9223372036854775808<=a/m/\a/m<=9223372036854775807:=by
 constructor
 ·rw[Int.le_ediv_iff_mul_le (by omega)]
  have:=Int.mul_le_mul_of_nonpos_left (a := -9223372036854775808) (b:=m) (c:=1) (by omega) hm
  omega
 ·have:a/m<9223372036854775808:=by
   rw[Int.ediv_lt_iff_lt_mul (by omega)];have:=Int.mul_le_mul_of_nonneg_left (c:=9223372036854775808) (a:=1) (b:=m) hm (by omega)
   omega
  omega
theorem AfW {a m:Int} (hm:2<=m) (h : -9223372036854775808<=a/\a<=9223372036854775807) : -4611686018427387904<=a/m/\a/m<=4611686018427387904:=by
 constructor
 ·rw[Int.le_ediv_iff_mul_le (by omega)]
  have:=Int.mul_le_mul_of_nonpos_left (a := -4611686018427387904) (b:=m) (c:=2) (by omega) hm
  omega
 ·have:a/m<4611686018427387904+1:=by
   rw[Int.ediv_lt_iff_lt_mul (by omega)];have:=Int.mul_le_mul_of_nonneg_left (c:=4611686018427387905) (a:=2) (b:=m) hm (by omega)
   omega
  omega
theorem AhT {v h:Int} (hh:1<=h):(v/h)%2=if h<=v%(2*h) then 1 else 0:=by
 have e:v/h=v%(2*h)/h+2*(v/(2*h)):=by
  conv=>lhs;rw[<-Int.emod_add_mul_ediv v (2*h)]
  rw[show 2*h*(v/(2*h))=h*(2*(v/(2*h))) by rw[Int.mul_comm 2 h,Int.mul_assoc],Int.add_mul_ediv_left _ _ (by omega)]
 have h0:0<=v%(2*h):=Int.emod_nonneg _ (by omega);have h1:v%(2*h)<2*h:=Int.emod_lt_of_pos _ (by omega);rw[e];by_cases hc:h<=v%(2*h)
 ·have:v%(2*h)/h=1:=by
   have a1:1<=v%(2*h)/h:=by rw[Int.le_ediv_iff_mul_le (by omega)];omega
   have a2:v%(2*h)/h<2:=by rw[Int.ediv_lt_iff_lt_mul (by omega)];omega
   omega
  rw[if_pos hc,this];omega
 ·have:v%(2*h)/h=0:=Int.ediv_eq_zero_of_lt h0 (by omega)
  rw[if_neg hc,this];omega
section
variable {L:Lib} {k:List It} {tm:Tm} {own:AJ} {Q:St->Prop} {l:List AI} {c4:List Nat} {d:Nat} {x y:AU} {a b n p:Int} {k2:IntKind}
end
end Go.c6

namespace Go.c6
theorem XD (ts:List Nat) (j:Nat) : ∀ tm:Tm,g7 (y9 tm ts) j=if ts.contains j then .any else g7 tm j
 | []=>by simp [Alh,All]
 | (i,u)::r=>by
  rw[Alg];by_cases h:ts.contains i=true
  ·rw[if_pos h,XD ts j r,Z8]
   by_cases h2:j=i
   ·subst h2;rw[if_pos h,if_pos h]
   ·rw[if_neg h2]
  ·rw[if_neg h,Z8,Z8,XD ts j r]
   by_cases h2:j=i
   ·subst h2;rw[if_pos rfl,if_pos rfl,if_neg h]
   ·rw[if_neg h2,if_neg h2]
def KX (j:Nat):List Nat->Bool
 | []=>false
 | i::r=>bif Nat.beq j i then true else KX j r
abbrev BW (n:Int):List AV:=[.int .i64 n]
section
variable {L:Lib} {k:List It} {tm:Tm} {own:AJ} {Q:St->Prop} {l:List AI} {c4:List Nat} {d:Nat} {x i:AU} {kd:IntKind} {a:Int} {q:Bool} {α:Type} {es:List α} {enc:α->List AV} {z:Nat}
end
end Go.c6

namespace Go.c6
inductive A8 where
 | bx (cs:List AV)
 | rw (z:Nat) (es:List (List AV))
 | bs (z:Nat) (es:List (List AV))
 | mx (rows:List (Option (Nat × List (List AV))))
 | hx (i:Nat) (v:AV) (rows:List (Option (Nat × List (List AV))))
 | vw (w:List Nat) (rows:List (Option (Nat × List (List AV))))
abbrev Mem:=List (Nat × Nat × A8)
def c9:Mem->Nat->Option (Nat × A8)
 | [],_=>none
 | (k,s,c)::r,j=>bif Nat.beq j k then some (s,c) else c9 r j
def c5 (M:Mem) (k t:Nat):Option A8:=match c9 M k with
 | none=>none
 | some (_,c)=>match t with
  | 0=>some c
  | i+1=>match c with
   | .mx rows=>match rows[i]? with
    | some (some (z,es))=>some (.rw z es)
    | _=>none
   | .hx _ _ rows=>match rows[i]? with
    | some (some (z,es))=>some (.rw z es)
    | _=>none
   | .vw _ rows=>match rows[i]? with
    | some (some (z,es))=>some (.rw z es)
    | _=>none
   | _=>none
def o4 (j:Nat):Mem->Mem
 | []=>[]
 | (k,s,c)::r=>bif Nat.beq j k then o4 j r else (k,s,c)::o4 j r
def tg:Tm->Nat->AV
 | [],_ => .any
 | (i,v)::r,j=>bif Nat.beq j i then v else tg r j
def bit (m i:Nat):Bool:=Nat.beq (Nat.land (Nat.shiftRight m i) 1) 1
def mask:Nat->List Nat->Nat
 | m,[]=>m
 | m,t::ts=>mask (Nat.lor m (Nat.shiftLeft 1 t)) ts
def sw (m:Nat):Tm->Tm
 | []=>[]
 | (i,v)::r=>bif bit m i then sw m r else (i,v)::sw (Nat.lor m (Nat.shiftLeft 1 i)) r
def fN (n:Nat) (K:Nat->Prop):Prop:=match n with
 | 0=>K 0
 | k+1=>K (k+1)
def qf:AV->Bool
 | .int _ _=>true | .bool _=>true | .aj _=>true | .sl _ _=>true | .nil=>true
 | _=>false
def EW:List AV->Bool
 | []=>true
 | v::r=>bif qf v then EW r else false
def YE:List (List AV)->Bool
 | []=>true
 | v::r=>bif EW v then YE r else false
def P5 (s:Nat):AV->Bool
 | .row k _ _ _ _=>Nat.beq k s | .ptr k _ _ _=>Nat.beq k s
 | _=>false
def JA (s:Nat):List AV->Bool
 | []=>false
 | v::r=>bif P5 s v then true else JA s r
def KJ (s:Nat):List (List AV)->Bool
 | []=>false
 | v::r=>bif JA s v then true else KJ s r
def SN (s:Nat):AV->Bool
 | .agg cs=>JA s cs
 | .fn _ _ _ cs=>JA s cs
 | v=>P5 s v
def W5 (s:Nat):List AV->Bool
 | []=>false
 | v::r=>bif SN s v then true else W5 s r
def P6 (s:Nat):AV->Bool
 | .g8 vs=>W5 s vs
 | v=>SN s v
def JB (s:Nat):Tm->Bool
 | []=>false
 | (_,v)::r=>bif P6 s v then true else JB s r
def IG (s:Nat):A8->Bool
 | .bx cs=>JA s cs
 | .rw _ _=>false
 | .bs _ es=>KJ s es
 | .mx _=>false
 | .hx _ _ _=>false
 | .vw _ _=>false
def H2 (s:Nat):Mem->Bool
 | []=>false
 | (k,_,c)::r=>bif Nat.beq s k then true else bif IG s c then true else H2 s r
def R2 (s:Nat):AV->Bool
 | .row k t _ _ _=>bif Nat.beq k s then (match t with|0=>false|_+1=>true) else false
 | .ptr k t _ _=>bif Nat.beq k s then (match t with|0=>false|_+1=>true) else false
 | _=>false
def QX (s:Nat):List AV->Bool
 | []=>false
 | v::r=>bif R2 s v then true else QX s r
def UG (s:Nat):AV->Bool
 | .agg cs=>QX s cs
 | .fn _ _ _ cs=>QX s cs
 | v=>R2 s v
def V3 (s:Nat):List AV->Bool
 | []=>false
 | v::r=>bif UG s v then true else V3 s r
def S6 (s:Nat):AV->Bool
 | .g8 vs=>V3 s vs
 | v=>UG s v
def QY (s:Nat):Tm->Bool
 | []=>false
 | (_,v)::r=>bif S6 s v then true else QY s r
def V4 (s:Nat):List (List AV)->Bool
 | []=>false
 | v::r=>bif QX s v then true else V4 s r
def R3 (s:Nat):A8->Bool
 | .bx cs=>QX s cs
 | .bs _ es=>V4 s es
 | _=>false
def LJ (s:Nat):Mem->Bool
 | []=>false
 | (_,_,c)::r=>bif R3 s c then true else LJ s r
def used (k:Nat) (tm:Tm) (M:Mem):Bool:=bif H2 k M then true else JB k tm
def dR (tm:Tm) (M:Mem):List Nat->(Nat->Prop)->Prop
 | [],_=>False
 | k::r,K=>bif used k tm M then dR tm M r K else K k
def HI (s:Nat) (tm:Tm) (M:Mem) (K:Nat->Prop):Prop:=dR tm M [s,s+1000000,s+2000000,s+3000000] K
def fL:List AV->(List AV->Prop)->Prop
 | [],K=>K []
 | v::r,K=>fL r λ r'=>K (v::r')
def fV (v:AV) (K:AV->Prop):Prop:=match v with
 | .int k n=>K (.int k n) | .bool b=>K (.bool b) | .sl l es=>K (.sl l es) | .row s t z o n=>K (.row s t z o n)
 | .nil=>K .nil | .ptr s t i j=>K (.ptr s t i j) | .u6 cs=>K (.u6 cs) | .agg cs=>fL cs λ cs=>K (.agg cs)
 | .fn p f g cs=>fL cs λ cs=>K (.fn p f g cs)
 | .g8 vs=>fL vs λ vs=>K (.g8 vs) | .aj c=>K (.aj c) | .any=>False
def fC (v:AV) (K:List AV->Prop):Prop:=match v with
 | .agg cs=>fL cs K
 | .fn _ _ _ _=>False
 | .g8 _=>False
 | .any=>False
 | v=>fV v λ v=>K [v]
def fB (b:Bool) (K:Bool->Prop):Prop:=match b with
 | true=>K true
 | false=>K false
def fT:Tm->(Tm->Prop)->Prop
 | [],K=>K []
 | (i,v)::r,K=>fT r λ r'=>K ((i,v)::r')
def fM:Mem->(Mem->Prop)->Prop
 | [],K=>K []
 | (k,s,c)::r,K=>fM r λ r'=>K ((k,s,c)::r')
def fF (v:AV) (K:AV->Prop):Prop:=match v with
 | .int k n=>K (.int k n) | .bool b=>K (.bool b) | .sl l es=>K (.sl l es) | .row s t z o n=>K (.row s t z o n)
 | .nil=>K .nil | .ptr s t i j=>K (.ptr s t i j) | .aj c=>K (.aj c)|_=>False
def f2 (v:AV) (K:AV->Prop):Prop:=match v with
 | .int k n=>K (.int k n) | .bool b=>K (.bool b) | .sl l es=>K (.sl l es) | .row s t z o n=>K (.row s t z o n)
 | .nil=>K .nil | .ptr s t i j=>K (.ptr s t i j) | .aj c=>K (.aj c) | .agg cs=>fL cs λ cs=>K (.agg cs) | .fn p f g cs=>fL cs λ cs=>K (.fn p f g cs)|_=>False
def oc (agg:Bool) (ds:List AV) (K:AV->Prop):Prop:=match agg with
 | true=>K (.agg ds)
 | false=>match ds with
  | [c]=>fF c K
  | _=>False
def AF (p q A B:Prop):Prop:=(p->A)/\(q->B)
def AX (p A:Prop):Prop:=p/\A
def AC (op:BinOp) (k:IntKind) (a:Int) (k':IntKind) (b:Int) (K:AV->Prop):Prop := ∃ v,C4 op k a k' b=some v/\K v
def CN (op:UnOp) (k:IntKind) (n:Int) (K:AV->Prop):Prop := ∃ v,TV op (.int k n)=some v/\K v
structure A0 (k:IntKind) (n:Int) (K:Int->Prop):Prop where h:K (k.wrap n)
def AR (es:List (List AV)) (a:Int) (z:Nat) (K:List AV->Prop):Prop:=0<=a /\ ∃ cs,es[a.toNat]? = some cs/\cs.length=z/\K cs
def BA (es:List (List AV)) (i j n:Nat) (K:List AV->Prop):Prop := ∃ cs ds,es[i]? = some cs/\part cs j n=some ds/\K ds
def A6 (es:List (List AV)) (i j:Nat) (vs:List AV) (K:List (List AV)->Prop):Prop := ∃ cs,es[i]? = some cs/\j+vs.length<=cs.length/\K (es.set i (splice cs j vs))
def BV (a b:Int) (bytes:Nat) (zero:List AV) (K:List (List AV)->Nat->Prop):Prop:=(0<=a/\a<=b/\b*bytes<=FI/\b<=9223372036854775807)/\K (List.replicate a.toNat zero) a.toNat
structure AM (es:List (List AV)) (K:Nat->Prop):Prop where h:K es.length
def BH (es:List (List AV)) (len:Nat) (ys:List (List AV)) (z bytes:Nat) (K:List (List AV)->Nat->Prop):Prop :=
 len<=es.length/\(∀ e∈ys,e.length=z)/\(len+ys.length)*bytes<=FI/\len+ys.length<=9223372036854775807/\K (es.take len++ys) (len+ys.length)
def CM (ys:List (List AV)) (z bytes:Nat) (K:List (List AV)->Nat->Prop):Prop :=
 (∀ e∈ys,e.length=z)/\ys.length*bytes<=FI/\ys.length<=9223372036854775807/\K ys ys.length
def EI (es:List (List AV)) (off len:Nat) (ys:List (List AV)) (z:Nat) (K:List (List AV)->Nat->Prop):Prop :=
 off+len<=es.length/\(∀ e∈ys,e.length=z)/\K (es.take off++ys.take len++es.drop (off+min ys.length len)) (min ys.length len)
def BO (es:List (List AV)) (off len:Nat) (K:List (List AV)->Prop):Prop:=off+len<=es.length/\K ((es.drop off).take len)
def GG:List AV->Bool
 | []=>true
 | v::r=>match v with
  | .int _ _=>GG r | .bool _=>GG r | .aj _=>GG r | .sl _ _=>GG r
  | _=>false
def nl:AV->AV
 | .nil => .sl false []
 | v=>v
def NP:List AV->Bool
 | []=>true
 | v::r=>match v with
  | .int _ _=>NP r | .bool _=>NP r | .aj _=>NP r | .sl _ _=>NP r | .nil=>NP r
  | _=>false
def AY (es:List (List AV)) (off len:Nat) (K:List (List AV)->Prop):Prop:=off+len<=es.length/\(∀ e∈es,NP e=true)/\K (((es.drop off).take len).map λ e=>e.map nl)
def CQ (rows:List (Option (Nat × List (List AV)))) (i:Nat) (K:Option (Nat × List (List AV))->Prop):Prop := ∃ r,rows[i]? = some r/\K r
def CE (rows:List (Option (Nat × List (List AV)))) (i:Nat) (K:Nat->List (List AV)->Prop):Prop := ∃ z es,rows[i]? = some (some (z,es))/\K z es
def C8 (rows:List (Option (Nat × List (List AV)))) (i z:Nat) (es:List (List AV)) (K:List (Option (Nat × List (List AV)))->Prop):Prop:=i<rows.length/\K (rows.set i (some (z,es)))
def EA (rows:List (Option (Nat × List (List AV)))) (i z:Nat) (es es':List (List AV)) (K:List (Option (Nat × List (List AV)))->Prop):Prop:=es'.length=es.length/\K (rows.set i (some (z,es')))
def DP (a b:Int) (bytes:Nat) (K:List (Option (Nat × List (List AV)))->Nat->Prop):Prop:=(0<=a/\a<=b/\b*bytes<=FI/\b<=9223372036854775807)/\K (List.replicate a.toNat none) a.toNat
def BT (rows:List (Option (Nat × List (List AV)))) (len:Nat) (r:Option (Nat × List (List AV))) (bytes:Nat) (K:List (Option (Nat × List (List AV)))->Nat->Prop):Prop :=
 len=rows.length/\(len+1)*bytes<=FI/\len+1<=9223372036854775807/\K (rows++[r]) (len+1)
def RG (q:Bool):List (Option (Nat × List (List AV)))->List (List AV)
 | []=>[]
 | none::r=>[.sl false []]::RG q r
 | some (_,es)::r=>[.sl q es]::RG q r
def CP (q:Bool) (rows:List (Option (Nat × List (List AV)))) (off len:Nat) (K:List (List AV)->Prop):Prop :=
 off=0/\len=rows.length/\(∀ z es,some (z,es)∈rows -> ∀ e∈es,GG e=true)/\K (RG q rows)
def B0 (lo hi:Option Int) (len:Nat) (K:Nat->Nat->Prop):Prop :=
 ∃ a h:Nat,(match lo with|none=>a=0|some x=>0<=x/\a=x.toNat)/\(match hi with|none=>h=len|some x=>0<=x/\x<=len/\h=x.toNat)/\a<=h/\K a h
def CJ (z:Nat) (es:List (List AV)) (lo hi:Option Int) (K:List (List AV)->Prop):Prop:=(∀ e∈es,e.length=z)/\B0 lo hi es.length λ a h=>K ((es.take h).drop a)
def AB (L:Lib) (f:Nat) (vs:List AV) (K:AV->Prop):Prop := ∃ r,Ev L f vs r/\K r
def Wp (n:Nat) (cs ds:List AV) (K:Bool->Prop):Prop := ∃ a b,lF cs=some a/\lF ds=some b/\a.length=n/\b.length=n/\K (decide (a=b))
def cW:List AV->Bool
 | []=>true
 | .int _ _::r=>cW r
 | _=>false
def C7 (L:Lib) (f:Nat) (vs:List AV) (K:Nat->List (List AV)->Nat->Prop):Prop := ∃ z es n,KQ L f vs z es/\n=es.length/\K z es n
abbrev GN:=Nat->Nat->Nat × Nat
def A7 (σ:GN):AV->AV
 | .row k t z o n => .row (σ k t).1 (σ k t).2 z o n
 | .ptr k t i j => .ptr (σ k t).1 (σ k t).2 i j
 | v=>v
def BM (σ:GN):AV->AV
 | .agg cs => .agg (cs.map (A7 σ))
 | .fn p f g cs => .fn p f g (cs.map (A7 σ))
 | v=>A7 σ v
def BC (σ:GN):AV->AV
 | .g8 vs => .g8 (vs.map (BM σ))
 | v=>BM σ v
def B7 (σ:GN) (k:Nat):Nat->List (Option (Nat × List (List AV)))->List (List AV)
 | _,[]=>[]
 | i,none::r=>[.nil]::B7 σ k (i+1) r
 | i,some (z,es)::r=>[.row (σ k (i+1)).1 (σ k (i+1)).2 z 0 es.length]::B7 σ k (i+1) r
def A8.e8 (σ:GN) (k:Nat):A8->ES
 | .bx cs=>⟨cs.length,[cs.map (A7 σ)]⟩
 | .rw z es=>⟨z,es⟩
 | .bs z es=>⟨z,es.map λ cs=>cs.map (A7 σ)⟩
 | .mx rows=>⟨1,B7 σ k 0 rows⟩
 | .hx i v rows=>⟨1,(B7 σ k 0 rows).set i [v]⟩
 | .vw w rows=>⟨1,w.map λ t=>((B7 σ k 0 rows)[t]?).getD []⟩
def A8.lg:A8->Bool
 | .bx _=>false
 | _=>true
def F5 (s:Nat):Bool:=Nat.blt s 900000
structure JH (σ:GN) (own:AJ) (M:Mem):Prop where
 site : ∀ k s c,c9 M k=some (s,c)->(σ k 0).1=s
 e8 : ∀ k t c,c5 M k t=some c->(own (σ k t).1).e8 (σ k t).2=some (c.e8 σ k)
 old : ∀ k t c,c5 M k t=some c->(σ k t).2<(own (σ k t).1).g9
 inj : ∀ k t k' t' c c',c5 M k t=some c->c5 M k' t'=some c'->σ k t=σ k' t'->k=k'/\t=t'
 low : ∀ k t c,c5 M k t=some c->c.lg=true->F5 (σ k t).1=true
structure RX (σ:GN) (tm:Tm) (M:Mem) (st:St):Prop where
 tm : ∀ j,tg tm j = .any\/g7 st.tm j=BC σ (tg tm j)
 sat:JH σ st.own M
def SQ (Q:Tm->Mem->Prop) (st:St):Prop := ∃ σ tm M,RX σ tm M st/\Q tm M
def AA (L:Lib) (k:List It) (tm:Tm) (M:Mem) (Q:Tm->Mem->Prop):Prop := ∀ σ st,RX σ tm M st->AK L k st (SQ Q)
def oW (L:Lib) (l:List AI) (k:List It) (tm:Tm) (M:Mem) (Q:Tm->Mem->Prop):Prop := ∀ σ st,RX σ tm M st->AO L l k st (SQ Q)
def A5 (L:Lib) (f:Nat) (vs:List AV) (tm:Tm) (M:Mem) (K:AV->Mem->Prop):Prop :=
 ∀ σ own,JH σ own M -> ∃ r l8 σ' M',HS L f (vs.map (BC σ)) own (BC σ' r) l8/\JH σ' l8 M'/\(∀ j,BC σ' (tg tm j)=BC σ (tg tm j))/\K r M'
def Wu (L:Lib) (s f key:Nat) (rest:List AV) (M:Mem) (K:AV->Mem->Prop):Prop :=
 ∃ (cells dp:List AV) (kd:IntKind) (n:Int),c9 M key=some (s,.bx cells)/\EW cells=true/\EW dp=true/\(∀ (t:Nat) (q:CF),q.e8 t=some ⟨cells.length,[cells]⟩->pA L s f (.ptr s t 0 0::rest) q (.int kd n) (q.o7 t (some ⟨dp.length,[dp]⟩)))/\K (.int kd n) ((key,s,.bx dp)::M)
def cv:AV->AV
 | .agg cs=>bif EW cs then .agg cs else .any
 | .g8 [] => .g8 []
 | .u6 _ => .any
 | .fn p f g [] => .fn p f g []
 | v=>bif qf v then v else .any
def ex (tm:Tm):AU->AV
 | .t n=>tg tm n
 | .c v=>cv v
def kq (k k':IntKind):Bool:=decide (k=k')
def iC (op:BinOp) (k:IntKind) (a:Int) (k':IntKind) (b:Int) (K:AV->Prop):Prop:=match op with
 | .lss=>bif kq k k' then AF (a<b) (b<=a) (K (.bool true)) (K (.bool false)) else False
 | .leq=>bif kq k k' then AF (a<=b) (b<a) (K (.bool true)) (K (.bool false)) else False
 | .gtr=>bif kq k k' then AF (b<a) (a<=b) (K (.bool true)) (K (.bool false)) else False
 | .geq=>bif kq k k' then AF (b<=a) (a<b) (K (.bool true)) (K (.bool false)) else False
 | .eql=>bif kq k k' then AF (a=b) (a≠b) (K (.bool true)) (K (.bool false)) else False
 | .neq=>bif kq k k' then AF (a≠b) (a=b) (K (.bool true)) (K (.bool false)) else False
 | op=>AC op k a k' b K
noncomputable def U2 (mx:Bool) (k:IntKind) (K:AV->Prop) (a:Int) (l:List AV):Prop :=
 List.rec (motive:=λ_=>Int->Prop) (λ a=>K (.int k a)) (λ v _ ih a=>match v with
  | .int _ b=>bif mx then AF (a<b) (b<=a) (ih b) (ih a) else AF (b<a) (a<=b) (ih b) (ih a)
  | _=>False) l a
def vi:List AV->Nat->AV
 | [],_ => .any
 | v::_,0=>v
 | _::r,n+1=>vi r n
def TN (s:Nat):List Nat->Bool
 | []=>true
 | c4 => !(KX s c4)
def U6:List Nat->Bool
 | []=>true
 | s::r=>bif F5 s then false else U6 r
def nC (M:Mem) (k t:Nat) (K:Nat->List (List AV)->Prop):Prop:=match c9 M k with
 | some (_,c)=>match t with
  | 0=>match c with
   | .rw z es=>K z es
   | _=>False
  | i+1=>match c with
   | .mx rows=>CE rows i K
   | _=>False
 | none=>False
def cE (M:Mem) (v:AV) (K:List (List AV)->Prop):Prop:=match v with
 | .sl _ es=>K es
 | .nil=>K []
 | .aj (.bool _)=>K []
 | .row key t z off len=>nC M key t λ z' es=>bif Nat.beq z z' then BO es off len K else False
 | _=>False
def VK (q:Bool) (M:Mem) (c4:List Nat) (v:AV) (K:AV->Prop):Prop:=match v with
 | .int k n=>K (.int k n)
 | .bool b=>K (.bool b)
 | .sl l es=>K (.sl l es)
 | .aj c=>K (.aj c)
 | .nil=>K (.sl false [])
 | .row key t z off len=>match c9 M key with
  | some (s,.rw z' es)=>match t with
   | 0=>bif Nat.beq z z' then bif TN s c4 then AY es off len λ es=>K (.sl q es) else False else False
   | _+1=>False
  | some (_,.mx rows)=>match t with
   | 0=>False
   | i+1=>match c4 with
    | []=>CE rows i λ z' es=>bif Nat.beq z z' then AY es off len λ es=>K (.sl q es) else False
    | b::r=>bif U6 (b::r) then CE rows i λ z' es=>bif Nat.beq z z' then AY es off len λ es=>K (.sl q es) else False else False
  | _=>False
 | _=>False
noncomputable def fE (q:Bool) (M:Mem) (c4:List Nat) (l:List AV):(List AV->Prop)->Prop :=
 List.rec (motive:=λ_=>(List AV->Prop)->Prop) (λ K=>K []) (λ v _ ih K=>VK q M c4 v λ v'=>ih λ r'=>K (v'::r')) l
noncomputable def nM (q:Bool) (M:Mem) (c4:List Nat) (l:List (List AV)):(List (List AV)->Prop)->Prop :=
 List.rec (motive:=λ_=>(List (List AV)->Prop)->Prop) (λ K=>K []) (λ v _ ih K=>fE q M c4 v λ v'=>ih λ r'=>K (v'::r')) l
noncomputable def ZY (q:Bool) (M:Mem) (c4:List Nat) (v:AV) (K:AV->Prop):Prop:=match v with
 | .row key 0 z off len=>match c9 M key with
  | some (s,.bs z' es)=>bif Nat.beq z z' then bif TN s c4 then bif Nat.beq off 0 then AX (len=es.length) (nM q M c4 es λ es=>K (.sl q es)) else False else False else False
  | some (_,.mx rows)=>match c4 with
   | []=>bif Nat.beq z 1 then CP q rows off len λ es=>K (.sl q es) else False
   | _::_=>False
  | _=>VK q M c4 (.row key 0 z off len) K
 | v=>VK q M c4 v K
noncomputable def nN (q:Bool) (M:Mem) (c4:List Nat) (l:List AV):(List AV->Prop)->Prop :=
 List.rec (motive:=λ_=>(List AV->Prop)->Prop) (λ K=>K []) (λ v _ ih K=>ZY q M c4 v λ v'=>ih λ r'=>K (v'::r')) l
noncomputable def SR (q:Bool) (M:Mem) (c4:List Nat) (v:AV) (K:AV->Prop):Prop:=match v with
 | .agg cs=>nN q M c4 cs λ cs=>K (.agg cs)
 | v=>ZY q M c4 v K
noncomputable def ZZ (tm:Tm) (M:Mem) (c4:List Nat) (l:List AU):(List AV->Prop)->Prop :=
 List.rec (motive:=λ_=>(List AV->Prop)->Prop) (λ K=>K []) (λ x _ ih K=>SR true M c4 (ex tm x) λ v=>ih λ vs=>K (v::vs)) l
noncomputable def fG (M:Mem) (c4:List Nat) (v:AV) (K:AV->Prop):Prop:=match v with
 | .nil=>K .nil
 | v=>SR true M c4 v K
noncomputable def nO (tm:Tm) (M:Mem) (c4:List Nat) (l:List AU):(List AV->Prop)->Prop :=
 List.rec (motive:=λ_=>(List AV->Prop)->Prop) (λ K=>K []) (λ x _ ih K=>fG M c4 (ex tm x) λ v=>ih λ vs=>K (v::vs)) l
noncomputable def WG (tm:Tm) (l:List AU):(List AV->Prop)->Prop :=
 List.rec (motive:=λ_=>(List AV->Prop)->Prop) (λ K=>K []) (λ x _ ih K=>fV (ex tm x) λ v=>ih λ vs=>K (v::vs)) l
def dK (tm:Tm) (o:Option AU) (K:Option Int->Prop):Prop:=match o with
 | none=>K none
 | some x=>match ex tm x with
  | .int _ n=>K (some n)
  | _=>False
def Y8 (es:List (List AV)) (K:Nat->Prop):Prop:=match es with
 | []=>K 0
 | [_]=>K 1
 | [_,_]=>K 2
 | [_,_,_]=>K 3
 | [_,_,_,_]=>K 4
 | es=>K es.length
noncomputable def iF (tm:Tm) (z:Nat) (l:List AU):(List (List AV)->Prop)->Prop :=
 List.rec (motive:=λ_=>(List (List AV)->Prop)->Prop) (λ K=>K []) (λ x _ ih K=>fC (ex tm x) λ cs=>bif Nat.beq cs.length z then ih λ es=>K (cs::es) else False) l
noncomputable def kJ (tm:Tm) (ps:List (Nat × Nat × AU)):List AV->(List AV->Prop)->Prop :=
 List.rec (motive:=λ_=>List AV->(List AV->Prop)->Prop) (λ cells K=>K cells) (λ p _ ih cells K=>fC (ex tm p.2.2) λ vs=>bif Nat.beq vs.length p.2.1 then bif Nat.ble (p.1+p.2.1) cells.length then fL (splice cells p.1 vs) λ cells=>ih cells K else False else False) ps
def TE (tm:Tm):List AU->List AV
 | []=>[]
 | x::r=>ex tm x::TE tm r
def UB (tb:List Nat) (n:Int) (K:Nat->Prop):Prop:=0<=n /\ ∃ v,tb[n.toNat]? = some v/\K v
noncomputable def mG (tm:Tm) (l:List AU):(List AV->Prop)->Prop :=
 List.rec (motive:=λ_=>(List AV->Prop)->Prop) (λ K=>K []) (λ x _ ih K=>fF (ex tm x) λ v=>ih λ cs=>K (v::cs)) l
def mK:AV->Bool
 | .agg _=>false | .fn _ _ _ _=>false | .g8 _=>false | .any=>false
 | _=>true
def ZG:List AV->Bool
 | []=>true
 | v::r=>bif mK v then ZG r else false
def UD (M:Mem) (v:AV):Option (Nat × Option (Nat × Nat × Nat)):=match v with
 | .row ky 0 1 0 1=>match c9 M ky with
  | some (_,.bs 1 [[.row k2 0 z 0 n]])=>some (ky,some (k2,z,n))
  | some (_,.rw 1 [[.nil]])=>some (ky,none)
  | _=>none
 | _=>none
def Y6 (z:Nat):List (List AV)->Bool
 | []=>true
 | e::r=>bif Nat.beq e.length z then Y6 z r else false
def iA (tm:Tm) (M:Mem) (s z bytes:Nat) (x y:AU) (K:AV->Mem->Prop):Prop:=match ex tm y with
 | .row ky 0 zy 0 ny=>match c9 M ky with
  | some (_,.bs z2 ij)=>bif Nat.beq zy z then bif Nat.beq z2 z then bif Nat.beq ny ij.length then bif Y6 z ij then (match ex tm x with
   | .nil=>bif F5 s then Y8 ij λ n=>AX (n*bytes<=140737488355328/\n<=9223372036854775807) (HI s tm M λ k=>K (.row k 0 z 0 n) ((k,s,.bs z ij)::M)) else False
   | .row kx 0 zx 0 len=>bif Nat.beq zx z then (match c9 M kx with
    | some (s',.bs z1 sz)=>bif Nat.beq z1 z then bif Nat.beq len sz.length then fM (o4 kx M) λ M'=>Y8 (sz++ij) λ n=>AX (n*bytes<=140737488355328/\n<=9223372036854775807) (HI s tm M λ k=>K (.row k 0 z 0 n) ((k,s',.bs z (sz++ij))::M')) else False else False
    | _=>False) else False
   | _=>False) else False else False else False else False
  | _=>False
 | _=>False
def oA (tm:Tm) (M:Mem) (K:AV->Mem->Prop) (n:Nat) (x v:AU):Prop:=match ex tm x with
 | .ptr key t i j=>fC (ex tm v) λ vs=>bif Nat.beq vs.length n then (match c9 M key with
  | some (s,c)=>match t with
   | 0=>match c with
    | .bx cs=>bif Nat.beq i 0 then bif Nat.ble (j+vs.length) cs.length then fL (splice cs j vs) λ cn=>K (.g8 []) ((key,s,.bx cn)::M) else False else False
    | .rw z es=>bif EW vs then A6 es i j vs λ es'=>K (.g8 []) ((key,s,.rw z es')::M) else False
    | .bs _ _=>False
    | .mx rows=>match vs with
     | [.row w7 0 z 0 m]=>bif Nat.beq key w7 then False else bif QY key tm then False else bif LJ key M then False else bif Nat.beq j 0 then (match c9 M w7 with
      | some (_,.rw z' es)=>bif Nat.beq z z' then fM (o4 w7 M) λ M'=>AX (m=es.length) (C8 rows i z es λ df=>K (.g8 []) ((key,s,.mx df)::M')) else False
      | _=>False) else False
     | [.row w7 (t2+1) z 0 m]=>bif Nat.beq key w7 then bif Nat.beq j 0 then CE rows t2 λ z' es=>bif Nat.beq z z' then AX (m=es.length/\i<rows.length) (K (.g8 []) ((key,s,.vw ((List.range rows.length).set i t2) rows)::M)) else False else False else False
     | _=>False
    | .hx i0 _ rows=>match vs with
     | [.row w7 0 z 0 m]=>bif Nat.beq key w7 then False else bif QY key tm then False else bif LJ key M then False else bif Nat.beq j 0 then (match c9 M w7 with
      | some (_,.rw z' es)=>bif Nat.beq z z' then fM (o4 w7 M) λ M'=>AX (i=i0/\m=es.length) (C8 rows i z es λ df=>K (.g8 []) ((key,s,.mx df)::M')) else False
      | _=>False) else False
     | _=>False
    | .vw w rows=>match vs with
     | [.row w7 (t2+1) z 0 m]=>bif Nat.beq key w7 then bif Nat.beq j 0 then CE rows t2 λ z' es=>bif Nat.beq z z' then AX (m=es.length/\i<w.length /\ ∀ t∈w,t<rows.length) (K (.g8 []) ((key,s,.vw (w.set i t2) rows)::M)) else False else False else False
     | _=>False
   | i'+1=>match c with
    | .mx rows=>bif EW vs then CE rows i' λ z es=>A6 es i j vs λ es'=>EA rows i' z es es' λ df=>K (.g8 []) ((key,s,.mx df)::M) else False
    | _=>False
  | none=>False) else False
 | _=>False
def BU (r:AV) (K:AV->Prop):Prop:=(JG r\/T3 r)/\K (MV r)
noncomputable def XE (L:Lib) (tm:Tm) (M:Mem) (c4:List Nat) (K:AV->Mem->Prop):EH->Prop
 | .a6 x=>fV (ex tm x) λ v=>K v M
 | .y8 s z=>bif F5 s then HI s tm M λ k=>K (.row k 0 z 0 0) ((k,s,.rw z [])::M) else False
 | .pick c a b=>match ex tm c with
  | .bool true=>fV (ex tm a) λ v=>K v M
  | .bool false=>fV (ex tm b) λ v=>K v M
  | _=>False
 | .bin op x y=>match ex tm x,ex tm y with
  | .int k a,.int k' b=>iC op k a k' b λ v=>K v M
  | _,_=>False
 | .beq ne x y=>match ex tm x,ex tm y with
  | .bool a,.bool b=>fB (bif ne then !(a == b) else a == b) λ c=>K (.bool c) M
  | _,_=>False
 | .un op x=>match ex tm x with
  | .int k n=>CN op k n λ v=>K v M
  | .bool b=>match op with
   | .not=>fB (!b) λ c=>K (.bool c) M
   | _=>False
  | _=>False
 | .conv k x=>match ex tm x with
  | .int _ n=>A0 k n λ v=>K (.int k v) M
  | _=>False
 | .box s x=>fC (ex tm x) λ cs=>HI s tm M λ k=>K (.ptr k 0 0 0) ((k,s,.bx cs)::M)
 | .alloc s zero=>bif EW zero then (HI s tm M λ k=>K (.ptr k 0 0 0) ((k,s,.bx zero)::M)) else False
 | .build zero parts=>bif EW zero then kJ tm parts zero λ cs=>K (.agg cs) M else False
 | .b7 s z parts=>bif F5 s then iF tm z parts λ es=>Y8 es λ n=>HI s tm M λ k=>bif YE es then K (.row k 0 z 0 n) ((k,s,.rw z es)::M) else K (.row k 0 z 0 n) ((k,s,.bs z es)::M) else False
 | .a5 x off=>match ex tm x with
  | .ptr key t i j=>K (.ptr key t i (j+off)) M
  | .u6 cs=>fL (cs.drop off) λ cs=>K (.u6 cs) M
  | _=>False
 | .lq x off n agg=>match ex tm x with
  | .agg cs=>match part cs off n with
   | some ds=>fL ds λ ds=>oc agg ds λ v=>K v M
   | none=>False
  | _=>False
 | .a8 arr z x i=>match ex tm i with
  | .int _ n=>match arr,ex tm x with
   | some len,.ptr key t i' j=>AX (0<=n/\n<(len:Int)) (K (.ptr key t i' (j+n.toNat*z)) M)
   | some len,.u6 cs=>AX (0<=n/\n<(len:Int)) (fL (cs.drop (n.toNat*z)) λ cs=>K (.u6 cs) M)
   | none,.row key t z' off len=>bif Nat.beq z' z then AX (0<=n/\n<(len:Int)) (K (.ptr key t (off+n.toNat) 0) M) else False
   | none,.sl _ es=>AR es n z λ cs=>K (.u6 cs) M
   | _,_=>False
  | _=>False
 | .ld agg n x=>match ex tm x with
  | .ptr key t i j=>match c9 M key with
   | some (s,c)=>match t with
    | 0=>bif TN s c4 then (match c with
     | .bx cs=>bif Nat.beq i 0 then (match part cs j n with
      | some ds=>fL ds λ ds=>oc agg ds λ v=>K v M
      | none=>False) else False
     | .rw _ es=>BA es i j n λ ds=>fL ds λ ds=>bif EW ds then oc agg ds λ v=>K v M else False
     | .bs _ es=>(match es[i]? with
      | some cs=>(match part cs j n with
       | some ds=>fL ds λ ds=>oc agg ds λ v=>K v M
       | none=>False)
      | none=>False)
     | .mx rows=>bif Nat.beq j 0 then bif Nat.beq n 1 then CQ rows i λ r=>match r with
      | some (z,es)=>oc agg [.row key (i+1) z 0 es.length] λ v=>K v M
      | none=>oc agg [.nil] λ v=>K v M else False else False
     | .hx _ _ _=>False
     | .vw _ _=>False) else False
    | i'+1=>match c,c4 with
     | .mx rows,[]=>CE rows i' λ_ es=>BA es i j n λ ds=>fL ds λ ds=>bif EW ds then oc agg ds λ v=>K v M else False
     | .mx rows,b::r=>bif U6 (b::r) then CE rows i' λ_ es=>BA es i j n λ ds=>fL ds λ ds=>bif EW ds then oc agg ds λ v=>K v M else False else False
     | _,_=>False
   | none=>False
  | .u6 cs=>match part cs 0 n with
   | some ds=>fL ds λ ds=>bif EW ds then oc agg ds λ v=>K v M else False
   | none=>False
  | _=>False
 | .st n x v=>oA tm M K n x v
 | .mi s n x v=>match ex tm x with
  | .ptr key 0 _ _=>(match c9 M key with
   | some (s',_)=>bif Nat.beq s' s then oA tm M K n x v else False
   | none=>False)
  | _=>False
 | .m5 f xs=>WG tm xs λ vs=>bif vs.all dq then AB L f (vs.map tn) λ r=>BU r λ r=>K r M else False
 | .mk s z bytes zero l c=>match ex tm l,ex tm c with
  | .int _ a,.int _ b=>bif Nat.beq zero.length z then bif EW zero then match zero with
   | [.nil]=>bif F5 s then DP a b bytes λ rows n=>HI s tm M λ k=>K (.row k 0 z 0 n) ((k,s,.mx rows)::M) else False
   | zero=>bif F5 s then (BV a b bytes zero λ es n=>HI s tm M λ k=>K (.row k 0 z 0 n) ((k,s,.rw z es)::M)) else False else False else False
  | _,_=>False
 | .cj z x lo hi=>dK tm lo λ lo=>dK tm hi λ hi=>match ex tm x with
  | .sl l es=>CJ z es lo hi λ es=>K (.sl l es) M
  | .row key t z' off len=>bif Nat.beq z' z then B0 lo hi len λ a h=>K (.row key t z (off+a) (h-a)) M else False
  | .nil=>(match lo,hi with
   | none,none=>K .nil M
   | some a,none=>AX (a=0) (K .nil M)
   | none,some h=>AX (h=0) (K .nil M)
   | some a,some h=>AX (a=0/\h=0) (K .nil M))
  | _=>False
 | .ext x i=>match ex tm x with
  | .g8 vs=>f2 (vi vs i) λ v=>K v M
  | _=>False
 | .len x=>match ex tm x with
  | .sl _ es=>AM es λ n=>K (.int .i64 (n:Int)) M
  | .nil=>K (.int .i64 0) M
  | .row _ _ _ _ n=>K (.int .i64 (n:Int)) M
  | _=>False
 | .mm mx xs=>match TE tm xs with
  | .int k a::r=>U2 mx k (λ v=>K v M) a r
  | _=>False
 | .app s z bytes x y=>bif Nat.ble 800000 s then iA tm M s z bytes x y K else (
  match UD M (ex tm y) with
  | some (ky,some (k2,z2,n2))=>match ex tm x with
   | .row key 0 z' off len=>bif Nat.beq off 0 then bif Nat.beq z' 1 then bif Nat.beq z 1 then bif Nat.beq key k2 then False else bif Nat.beq key ky then False else bif Nat.beq k2 ky then False else (match c9 M k2 with
    | some (_,.rw z3 es)=>bif Nat.beq z2 z3 then (match c9 M key with
     | some (s',.mx rows)=>fM (o4 key (o4 k2 (o4 ky M))) λ M'=>AX (n2=es.length) (BT rows len (some (z2,es)) bytes λ df n=>HI s tm M λ k=>K (.row k 0 z 0 n) ((k,s',.mx df)::M'))
     | _=>False) else False
    | _=>False) else False else False else False
   | .nil=>bif F5 s then bif Nat.beq z 1 then (match c9 M k2 with
    | some (_,.rw z3 es)=>bif Nat.beq z2 z3 then fM (o4 k2 M) λ M'=>AX (n2=es.length/\bytes<=140737488355328) (HI s tm M λ k=>K (.row k 0 z 0 1) ((k,s,.mx [some (z2,es)])::M')) else False
    | _=>False) else False else False
   | _=>False
  | some (ky,none)=>match ex tm x with
   | .row key 0 z' off len=>bif Nat.beq off 0 then bif Nat.beq z' 1 then bif Nat.beq z 1 then bif Nat.beq key ky then False else (match c9 M key with
     | some (s',.mx rows)=>fM (o4 key M) λ M'=>BT rows len none bytes λ df n=>HI s tm M λ k=>K (.row k 0 z 0 n) ((k,s',.mx df)::M')
     | _=>False) else False else False else False
   | .nil=>bif F5 s then bif Nat.beq z 1 then AX (bytes<=140737488355328) (HI s tm M λ k=>K (.row k 0 z 0 1) ((k,s,.mx [none])::M)) else False else False
   | _=>False
  | none=>cE M (ex tm y) λ ys=>match ex tm x with
   | .row key 0 z' off len=>bif Nat.beq off 0 then bif Nat.beq z' z then (match c9 M key with
    | some (s',.rw fg es)=>bif Nat.beq fg z then fM (o4 key M) λ M'=>(BH es len ys z bytes λ es' n=>HI s tm M λ k=>K (.row k 0 z 0 n) ((k,s',.rw z es')::M')) else False
    | _=>False) else False else False
   | .row key (i+1) z' off len=>bif Nat.beq off 0 then bif Nat.beq z' z then (match c9 M key with
    | some (sk,.mx rows)=>fM (o4 key M) λ M'=>CE rows i λ fg es=>bif Nat.beq fg z then (BH es len ys z bytes λ es' n => ∀ s' v,HI s tm M λ k=>K (.row k 0 z 0 n) ((k,s',.rw z es')::(key,sk,.hx i v (rows.set i none))::M')) else False
    | _=>False) else False else False
   | .nil=>bif F5 s then CM ys z bytes λ es n=>HI s tm M λ k=>K (.row k 0 z 0 n) ((k,s,.rw z es)::M) else False
   | _=>False)
 | .call f xs=>ZZ tm M c4 xs λ vs=>AB L f vs λ r=>K r M
 | .g6 f xs=>WG tm xs λ vs=>A5 L f vs tm M K
 | .o5 s f xs=>bif F5 s then nO tm M c4 xs λ vs=>C7 L f vs λ z es n=>HI s tm M λ k=>K (.row k 0 z 0 n) ((k,s,.rw z es)::M) else False
 | .oy ne x=>match ex tm x with
  | .nil=>fB (xor true ne) λ c=>K (.bool c) M
  | .aj (.bool b)=>fB (xor b ne) λ c=>K (.bool c) M
  | .sl _ es=>AX (es≠[]) (fB (xor false ne) λ c=>K (.bool c) M)
  | .row _ _ _ _ n=>AX (0<n) (fB (xor false ne) λ c=>K (.bool c) M)
  | _=>False
 | .bad=>False
 | .aq s f xs=>WG tm xs λ vs=>match vs with
  | .ptr key 0 0 0::rest=>bif cW rest then Wu L s f key rest M K else False
  | _=>False
 | .eo tb x=>match ex tm x with
  | .int _ n=>UB tb n λ v=>K (.int .u8 v) M
  | _=>False
 | .mf p f xs=>mG tm xs λ cs=>K (.fn (p&&cs.isEmpty) f (L.num f) cs) M
 | .m8 x xs=>match ex tm x with
  | .fn true f g []=>AX (g=L.num f) (ZZ tm M [] xs λ vs=>AB L f vs λ r=>K r M)
  | .fn true f g (c::cs)=>AX (g=L.num f) (SR true M [] (.agg (c::cs)) λ v=>ZZ tm M [] xs λ vs=>AB L f (v::vs) λ r=>K r M)
  | .fn false f g cs=>bif ZG cs then AX (g=L.num f) (WG tm xs λ vs=>fL (vs++cs) λ vs=>A5 L f vs tm M K) else False
  | _=>False
def Bh (key:Nat):Tm->Tm
 | []=>[]
 | (j,v)::r=>bif S6 key v then (j,.any)::Bh key r else (j,v)::Bh key r
def xk (v:AV) (tm:Tm) (K:Tm->Prop):Prop:=match v with
 | .row key (_+1) _ _ _=>fT (Bh key tm) K
 | _=>K tm
noncomputable def XI (L:Lib) (o:AI) (ih:(Tm->Mem->Prop)->Tm->Mem->Prop) (K:Tm->Mem->Prop) (tm:Tm) (M:Mem):Prop:=match o with
 | ⟨some d,.app s z b x y,none,c4⟩=>XE L tm M c4 (λ v M=>xk (ex tm x) tm λ tm=>ih K ((d,v)::tm) M) (.app s z b x y)
 | ⟨some d,op,none,c4⟩=>XE L tm M c4 (λ v M=>ih K ((d,v)::tm) M) op
 | ⟨none,op,none,c4⟩=>XE L tm M c4 (λ_ M=>ih K tm M) op
 | ⟨dst,op,some (g,w),c4⟩=>match tg tm g with
  | .bool b=>fB (b == w) λ c=>match c,dst with
   | true,some d=>XE L tm M c4 (λ v M=>ih K ((d,v)::tm) M) op
   | true,none=>XE L tm M c4 (λ_ M=>ih K tm M) op
   | false,some d=>ih K ((d,.g8 [])::tm) M
   | false,none=>ih K tm M
  | .g8 []=>match dst with
   | some d=>ih K ((d,.g8 [])::tm) M
   | none=>ih K tm M
  | _=>False
noncomputable def XO (L:Lib) (l:List AI):(Tm->Mem->Prop)->Tm->Mem->Prop :=
 List.rec (motive:=λ_=>(Tm->Mem->Prop)->Tm->Mem->Prop) (λ K tm M=>K tm M) (λ o _ ih K tm M=>XI L o ih K tm M) l
noncomputable def XS (L:Lib) (Q:Tm->Mem->Prop) (ih:List It->Tm->Mem->Prop) (k:List It) (tm:Tm) (M:Mem):Prop:=match k with
 | []=>Q tm M
 | it::k=>match it with
  | .e8 _=>ih k tm M
  | .ln ts ss=>fN (mask 0 ts) λ m=>fT (sw m tm) λ tm=>match ss with
   | []=>ih k tm M
   | _::_=>False
  | .lp c=>AA L (.lp c::k) tm M Q
  | .code c=>match c with
   | .skip=>ih k tm M
   | .ops l _=>XO L l (λ tm M=>ih k tm M) tm M
   | .dr c ts ss=>ih (.code c :: .ln ts ss::k) tm M
   | .scope c=>ih (.code c::k) tm M
   | .seq a b=>ih (.code a :: .code b::k) tm M
   | .cond x a b=>match ex tm x with
    | .bool b'=>fB b' λ c=>match c with
     | true=>ih (.code a::k) tm M
     | false=>ih (.code b::k) tm M
    | _=>False
   | .block id c=>ih (.code c :: .e8 id::k) tm M
   | .loop c=>AA L (.lp c::k) tm M Q
   | .exit id=>match GP id k with
    | some k'=>ih k' tm M
    | none=>False
   | .ret=>Q tm M
noncomputable def XK (L:Lib) (Q:Tm->Mem->Prop) (n:Nat):List It->Tm->Mem->Prop :=
 Nat.rec (motive:=λ_=>List It->Tm->Mem->Prop) (λ k tm M=>AA L k tm M Q) (λ_ ih k tm M=>XS L Q ih k tm M) n
def ZR (tm:Tm) (M:Mem) (r:KP) (K:AV->Prop):Prop:=match r with
 | .tmp t=>f2 (tg tm t) K
 | .cell t agg n=>match tg tm t with
  | .ptr key 0 i j=>match c9 M key with
   | some (_,.bx cs)=>bif Nat.beq i 0 then (match part cs j n with
    | some ds=>fL ds λ ds=>oc agg ds K
    | none=>False) else False
   | _=>False
  | _=>False
noncomputable def dX (tm:Tm) (M:Mem) (l:List KP):(List AV->Prop)->Prop :=
 List.rec (motive:=λ_=>(List AV->Prop)->Prop) (λ K=>K []) (λ x _ ih K=>ZR tm M x λ v=>ih λ vs=>K (v::vs)) l
noncomputable def nL (q:Bool) (M:Mem) (l:List AV):(List AV->Prop)->Prop :=
 List.rec (motive:=λ_=>(List AV->Prop)->Prop) (λ K=>K []) (λ x _ ih K=>SR q M [] x λ v=>ih λ vs=>K (v::vs)) l
def Vs (vs:List AV) (K:AV->Prop):Prop:=match vs with
 | [v]=>K v
 | vs=>K (.g8 vs)
def AH (a r:AV):Prop:=a=r/\AZ r
noncomputable def RW (fn:AFn) (r:AV) (tm:Tm) (M:Mem):Prop:=dX tm M fn.res λ vs=>nL false M vs λ vs=>Vs vs λ v=>AH v r
end Go.c6
