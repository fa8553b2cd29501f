/-
  A region that draws its order: the law.
-/
import Derived.Test.YtmhfodhmngfoiaaGreatDoorB2
import Derived.Test.YtmhfodhmngfoiaaGreatDoorB1
import Derived.IntWalk
set_option linter.unusedSimpArgs false
set_option linter.unusedVariables false
set_option linter.unnecessarySimpa false
open Array renaming replicate->xb,getElem?_eq_some_iff->ib,getD->eb,getElem?_eq_getElem->Db
open BitVec renaming toNat_ofInt->tc,ofInt->Lc
open Bool renaming and_eq_true->Oa,false_eq_true->vb,or_eq_true->Mc,false_or->Gc
open Function renaming comp->xd
open Int renaming le_ediv_iff_mul_le->Mb,ediv_lt_iff_lt_mul->Lb,mul_le_mul_of_nonpos_left->Hb,mul_le_mul_of_nonneg_left->Gb,emod_nonneg->Fb,dvd_iff_emod_eq_zero->yc,toNat_of_nonneg->mc,emod_lt_of_pos->dc,mul_comm->Cc
open List renaming map_cons->va,mapM_cons->na,map_congr_left->Na,getElem?_set_self->Ma,getElem?_set_ne->La,getElem?_append_right->Ka,length_map->Ia,getElem?_append_left->Ha,replicate->Fa,getElem?_eq_none->Ea,mem_cons->Da,ext_getElem?->Ca,map_nil->Ba,map_map->zb,length_cons->rb,mem_cons_of_mem->qb,length_nil->ob,getElem?_cons_zero->Ob,all_eq_true->Nb,mem_cons_self->Ib,drop_zero->Eb,getElem?_cons_succ->zc,replicate_succ->sc,getElem?_map->ec,mapM->Qc,countP_cons->Pc,map_append->Oc,cons.injEq->Nc,map_take->Jc,map_drop->Ic,all_cons->Hc,map_id->Dc,range->Bc
open Nat renaming beq->za,le_refl->ma,le_max_right->ea,le_max_left->Pa,lt_of_lt_of_le->Ga,zero_add->yb,beq_refl->nb,lt_trichotomy->Qb,ble->Pb,le_of_ble_eq_true->Kb,lt_irrefl->Jb,mod_two_eq_zero_or_one->Cb,shiftLeft->Bb,eq_of_beq_eq_true->uc,and_one_is_mod->fc,shiftRight->Kc,sub_self->Fc,lor->Ec,land->yd
open Option renaming some.injEq->xa,some.inj->ta,map_some->sa,map_eq_some_iff->ga,bind_eq_bind->wc,bind_some->nc,pure_def->kc
open Prod renaming mk.injEq->Qa,ext->zd
namespace Go.e9
open Go.RowKit
section
variable {ops:Array Oper} {md:Region.Mode}
theorem Agm{e:Edge}(h:Region.binds .any e=true)(md:Region.Mode):Region.binds md e=true:=by
 unfold Region.binds at*;split at h<;>simp_all
theorem Wj(ops:Array Oper)(md:Region.Mode):∀(fuel t:Nat)(listed:Array Bool),listed.size=ops.size->∀(k i:Nat),(Region.linearise.go md ops fuel t listed [])[k]?=some i ->
  ∃o,ops[i]?=some o/\∀e∈o.after,Region.binds md e=true->listed.getD e.on false=true\/e.on∈(Region.linearise.go md ops fuel t listed []).take k
 |0,t,listed,hs,k,i,h=>by simp[Region.linearise.go]at h
 |fuel+1,t,listed,hs,k,i,h=>by
  have ya:Region.linearise.go md ops (fuel+1) t listed []=match (Region.ready md ops listed)[t%(Region.ready md ops listed).length]? with
   |some i=>i::Region.linearise.go md ops fuel (t/(Region.ready md ops listed).length) (listed.setIfInBounds i true) []
   |none=>[]:=by
   simp only[Region.linearise.go];change (match (Region.ready md ops listed)[t%(Region.ready md ops listed).length]? with
    |some i=>Region.linearise.go md ops fuel (t/(Region.ready md ops listed).length) (listed.setIfInBounds i true) [i]
    |none=>[].reverse)=_
   cases (Region.ready md ops listed)[t%(Region.ready md ops listed).length]? with
   |none=>rfl
   |some i=>simp only[];rw[linearise_go_acc];rfl
  rw[ya]at h⊢;cases hr:(Region.ready md ops listed)[t%(Region.ready md ops listed).length]? with
  |none=>rw[hr]at h;simp at h
  |some q=>
   rw[hr]at h;simp only at h⊢;obtain⟨_,oq,hoq,hq⟩:=mem_ready.1 (zM hr);cases k with
   |zero=>
    simp at h;subst h;exact⟨oq,hoq,λe he hb=>.inl (hq e he hb)⟩
   |succ k=>
    simp at h;obtain⟨o,ho,hh⟩:=Wj ops md fuel _ _ (by simpa using hs) k i h;refine⟨o,ho,λe he hb=>?_⟩;rcases hh e he hb with h1|h1
    ·by_cases heq:e.on=q
     ·right;simp[heq]
     ·left
      rw[getD_set_ne false (Ne.symm heq)]at h1;exact h1
    ·right;simp[h1]
theorem nM{p:Nat->Bool}:∀(l:u_),(∃i∈l,p i=false)->∃k i,l[k]?=some i/\p i=false/\∀j∈l.take k,p j=true
 |[],⟨i,hi,_⟩=>by simp at hi
 |x::r,⟨i,hi,hp⟩=>by
  cases hx:p x with
  |false=>exact⟨0,x,rfl,hx,Z'⟩
  |true=>
   have:∃i∈r,p i=false:=by
    rcases Da.1 hi with h|h
    ·subst h;rw[hx]at hp;cases hp
    ·exact⟨i,h,hp⟩
   obtain⟨k,j,h1,h2,h3⟩:=nM r this;refine⟨k+1,j,by simpa using h1,h2,λq hq=>?_⟩;simp only[List.take_succ_cons,Da]at hq;rcases hq with h|h
   ·subst h;exact hx
   ·exact h3 q h
theorem progress{l:List AI}(hd:VY ops l=true)(Hp:md = .gc->Region.departs ops=true){listed:Array Bool}(hs:listed.size=ops.size)(hr:Region.ready md ops listed=[]):∀j,j<ops.size->listed.getD j false=true:=by
 intro j hj;cases fe:listed.getD j false with
 |true=>rfl
 |false=>
  exfalso;simp only[VY,Oa]at hd;obtain⟨⟨_,fp⟩,wh⟩:=hd;have px:∀i,i<ops.size->listed.getD i false=false->¬∀o,ops[i]?=some o->∀e∈o.after,Region.binds md e=true->listed.getD e.on false=true:=λi hi hl jm=>by
   have:i∈Region.ready md ops listed:=mem_ready.2 ⟨by
    have:i<listed.size:=O'
    simp[eb,this]at hl⊢;exact hl,ops[i],Db hi,λe he hb=>jm ops[i] (Db hi) e he hb⟩
   rw[hr]at this;simp at this
  by_cases Kn:md = .gc
  ·subst Kn
   rw[Hp rfl]at wh;simp only[Bool.not_true,Gc,Nb,List.mem_range,List.contains_iff_mem]at wh;obtain⟨k,i,h1,h2,h3⟩:=nM (p:=λq=>listed.getD q false) (Region.linearise .gc ops 0) ⟨j,wh j hj,fe⟩;obtain⟨o,ho,hh⟩:=Wj ops .gc ops.size 0 (xb ops.size false) Z' k i h1;have hi:i<ops.size:=(ib.1 ho).1;refine px i hi h2 λo' zk e he hb=>?_
   rw[ho]at zk;obtain rfl:o=o':=by simpa using zk
   rcases hh e he hb with h4|h4
   ·simp[eb]at h4
   ·exact h3 e.on h4
  ·obtain⟨k,i,h1,h2,h3⟩:=nM (p:=λq=>listed.getD q false) (Bc ops.size) ⟨j,by simpa using hj,fe⟩
   have Hk:i=k:=by
    have ua:k<ops.size:=by have:=(zS h1).1;simpa using this
    rw[List.getElem?_range ua]at h1;simpa using h1.symm
   subst Hk;have hi:i<ops.size:=by have:=(zS h1).1;simpa using this
   refine px i hi h2 λo ho e he hb=>?_
   rw[Nb]at fp;have bu:(o,i)∈ops.toList.zipIdx:=List.mem_zipIdx_iff_getElem?.2 (by simpa using ho);have h4:=fp (o,i) bu;simp only[Array.all_eq_true_iff_forall_mem,Mc,decide_eq_true_eq]at h4;rcases h4 e he with h5|h5
   ·exact h3 e.on (by rw[List.take_range];simp;omega)
   ·exfalso
    unfold Region.binds at hb;split at h5
    ·rename_i row Pv
     rw[Pv]at hb;simp at hb;exact Kn hb
    ·cases h5
variable {B:Nat} {S:Nat->Prop} {w0:GG} {m0:M} {N:Nat}
variable {P:Program} {num:Nat->Nat} {C:Cl} {Q:Exit->Act->World->Prop}
def W8(listed:Array Bool)(n:Nat):Nat:=(Bc n).countP (λj=>!listed.getD j false)
theorem wC{α:Type}{p q:α->Bool}:∀{l:List α}{x:α},(∀y∈l,q y=true->p y=true)->x∈l->p x=true->q x=false->l.countP q<l.countP p
 |[],x,_,hx,_,_=>by simp at hx
 |y::r,x,h,hx,hp,hq=>by
  have hle:r.countP q<=r.countP p:=List.countP_mono_left λz hz hqz=>h z (by simp[hz]) hqz
  rw[Pc,Pc];rcases Da.1 hx with rfl|hx
  ·simp only[hp,hq,if_true,vb,if_false]
   omega
  ·have:=wC (l:=r) (λz hz=>h z (by simp[hz])) hx hp hq
   by_cases Pp:q y=true
   ·simp only[Pp,h y Z' Pp,if_true];omega
   ·simp only[Pp,vb,if_false]
    split<;>omega
theorem Aoj{I:E0}(hC:HU I P num C B w0){l:List AI}(k8:RG P num N ops ops.toList l=true){σ:Nat->St}{rs:List EB}(h:dC C ops l σ rs)(Hp:md = .gc->Region.departs ops=true)
  (hQ:∀m' a',m'.own=(σ l.length).own->GX B S w0 m0 N (j8 (σ l.length).tm) m' a'->Q .normal a' m'.w) :
  ∀(fuel:Nat)(listed:Array Bool)(a:Act)(m:M),listed.size=ops.size->W8 listed ops.size<=fuel->XL ops (λj=>listed.getD j false)->m.own=(EJ (λj=>listed.getD j false) rs 0 (d0 σ)).2->GX B S w0 m0 N (EJ (λj=>listed.getD j false) rs 0 (d0 σ)).1 m a->wpAny P md ops Q fuel listed a m.w:=by
 have hlen:ops.size=l.length:=by have:=(bM k8).1;simpa using this
 have final:∀(listed:Array Bool)(a:Act)(m:M),(∀j,j<ops.size->listed.getD j false=true)->m.own=(EJ (λj=>listed.getD j false) rs 0 (d0 σ)).2->GX B S w0 m0 N (EJ (λj=>listed.getD j false) rs 0 (d0 σ)).1 m a->Q .normal a m.w:=λlisted a m jm l8 hf=>by
  have:EJ (λj=>listed.getD j false) rs 0 (d0 σ)=(j8 (σ l.length).tm,(σ l.length).own):=by
   rw[<-mJ h l.length (ma _)];refine gE rs 0 _ λi hi=>?_
   simp only[yb];rw[jm i (by rw[hlen,<-h.len];exact hi)];simp;rw[<-h.len];exact hi
  rw[this]at l8 hf;exact hQ m a l8 hf
 have Fl:∀listed:Array Bool,W8 listed ops.size<=0->∀j,j<ops.size->listed.getD j false=true:=λlisted h0 j hj=>by
  have h1:W8 listed ops.size=0:=O'
  unfold W8 at h1;rw[List.countP_eq_zero]at h1;simpa using h1 j (by simpa using hj)
 intro fuel;induction fuel with
 |zero=>
  intro listed a m x8 hn Od l8 hf;refine⟨?_,final listed a m (Fl listed hn) l8 hf⟩;cases hr:Region.ready md ops listed with
  |nil=>rfl
  |cons i r=>
   obtain⟨h1,o,ho,_⟩:=mem_ready.1 (show i∈Region.ready md ops listed by rw[hr];simp);have hi:i<ops.size:=(ib.1 ho).1;have h2:=Fl listed hn i hi;have ic:i<listed.size:=O'
   simp[eb,ic]at h1 h2;rw[h1]at h2;cases h2
 |succ fuel ih=>
  intro listed a m x8 hn Od l8 hf;refine⟨λhr=>final listed a m (progress h.ok Hp x8 hr) l8 hf,λi hi=>?_⟩;obtain⟨h1,o,ho,Cr⟩:=mem_ready.1 hi;have hio:i<ops.size:=(ib.1 ho).1;have ic:i<listed.size:=O'
  have ml:listed.getD i false=false:=by
   simp[eb,ic]at h1⊢;exact h1
  have ub:i<l.length:=O'
  have il:i<rs.length:=by rw[h.len];exact ub
  have hx:l[i]?=some l[i]:=zE ub;have hr:rs[i]?=some rs[i]:=zE il;have gf:∀o',ops[i]?=some o'->∀e∈o'.after,Region.binds .any e=true->listed.getD e.on false=true:=λo' zk e he hb=>by
   rw[ho]at zk;obtain rfl:o=o':=by simpa using zk
   exact Cr e he (Agm hb md)
  obtain⟨g1,g2,g3,g4⟩:=Ah9 h hx hr Od ml gf;have Pk:=(bM k8).2 i o l[i] (by simpa using ho) hx;have xx:∀j,(listed.setIfInBounds i true).getD j false=(decide (j=i)||listed.getD j false):=λj=>by
   by_cases Eo:j=i
   ·subst Eo;simp[eb,ic]
   ·rw[getD_set_ne false (Ne.symm Eo)];simp[Eo]
  refine Zb hC ho Pk hf g1 (λhg=>by rw[l8];exact g2 hg) λm' a' mo ot=>?_
  have eh:=g4 _ xx;refine ih (listed.setIfInBounds i true) a' m' (by simpa using x8) ?_ ?_ ?_ ?_
  ·have k7:W8 (listed.setIfInBounds i true) ops.size<W8 listed ops.size:=by
    refine wC (x:=i) (λj _ hj=>?_) (by simpa using hio) (by simp[ml]) (by rw[xx];simp);rw[xx]at hj;simp at hj⊢;exact hj.2
   omega
  ·intro j oj hj Kw e he hb
   change (listed.setIfInBounds i true).getD j false=true at hj;show(listed.setIfInBounds i true).getD e.on false=true;rw[xx]at hj⊢;simp only[Mc,decide_eq_true_eq]at hj⊢;rcases hj with rfl|hj
   ·exact .inr (gf oj Kw e he hb)
   ·exact .inr (Od j oj hj Kw e he hb)
  ·rw[eh,mo,l8]
   rfl
  ·rw[eh]
   rw[l8,g3]at ot;have hd:(l[i]).dst=(rs[i]).d:=(h.fits i _ _ hx hr).d.symm;rw[hd]at ot;exact ot
theorem Aok{I:E0}(hC:HU I P num C B w0){id:Nat}{l:List AI}(k8:RG P num N ops ops.toList l=true)(hd:VY ops l=true){st o6:St}(o7:DT C l st=some o6){m:M}{a:Act}(l8:m.own=st.own)(hf:GX B S w0 m0 N (j8 st.tm) m a)
  (hQ:∀m' a',m'.own=o6.own->GX B S w0 m0 N (j8 o6.tm) m' a'->Q .normal a' m'.w):(Code.region id ops true).wp P Q a m.w:=by
 obtain⟨σ,rs,h0,h1,hl,h2⟩:=trace o7;have hD:dC C ops l σ rs:=⟨hd,hl,h2⟩;obtain⟨ix,Hf⟩:=grow hf.mem ((D7.refl w0.D m.w.heap.size m.w).drew);have uw:GX B S w0 m0 N (j8 st.tm) ⟨m.ν,m.own,m.w.drew⟩ a:=⟨ix,hf.ext.trans Hf,λi=>Hf.cv (hf.tm i),hf.size,hf.defers⟩;have Jr:EJ (λj=>(xb ops.size false).getD j false) rs 0 (d0 σ)=d0 σ:=nR rs 0 _ λi _=>by simp[eb]
 have key:∀md:Region.Mode,(md = .gc->Region.departs ops=true)->∀t,wpOps P ops Q (Region.linearise md ops t) a m.w.drew:=λmd Hp t=>by
  refine wpAny_sound ops.size t (xb ops.size false) a m.w.drew ?_;refine Aoj hC k8 hD Hp (by rw[h1];exact hQ) ops.size _ a ⟨m.ν,m.own,m.w.drew⟩ Z' ?_ ?_ ?_ ?_
  ·unfold W8
   exact Nat.le_trans List.countP_le_length Z'
  ·intro j o hj
   simp[eb]at hj
  ·rw[Jr];simp[d0,h0,l8]
  ·rw[Jr];simpa [d0,h0]using uw
 refine wp_region_draw λt=>?_
 change wpOps P ops Q _ a m.w.drew;unfold Region.schedule;split
 ·exact key .any (λh=>by cases h) t
 ·rename_i Hd
  have Kl:Region.departs ops=true:=by simp at Hd;exact Hd.2
  split
  ·exact key .text (λ_=>Kl) _
  ·exact key .gc (λ_=>Kl) _
end
end Go.e9
namespace Go.e9
open Go.RowKit
section
variable {B:Nat} {S:Nat->Prop} {w0:GG} {m0:M} {N:Nat}
variable {P:Program} {num:Nat->Nat} {C:Cl}
theorem AnY(m:Tm)(l:u_)(j:Nat):j8 (cb m l) j=j8 m j\/j8 (cb m l) j = .any:=by
 induction m with
 |nil=>exact .inl rfl
 |cons x r ih=>
  obtain⟨i,v⟩:=x;simp only[cb];split
  ·by_cases h:j=i
   ·subst h
    rename_i hc;right
    clear ih;induction r with
    |nil=>rfl
    |cons y q ih=>
     obtain⟨k,u⟩:=y;simp only[cb];split
     ·exact ih
     ·rename_i hk
      have:¬j=k:=λe=>by subst e;exact hk hc
      simp only[j8,if_neg this];exact ih
   ·rcases ih with h1|h1
    ·left;simp only[j8,if_neg h];exact h1
    ·right;exact h1
  ·by_cases h:j=i
   ·left;simp[j8,h]
   ·simp only[j8,if_neg h]
    exact ih
inductive J8(P:Program)(num:Nat->Nat)(N:Nat):List It->List Item->Prop
 |nil:J8 P num N [] []
 |code {c:Code} {a:BH} {k:List It} {t:List Item} (h:FR P num N c a=true) (hk:J8 P num N k t):J8 P num N (.code a::k) (.code c::t)
 |drop {ts ss:u_} {k:List It} {t:List Item} (hk:J8 P num N k t):J8 P num N (.qa ts ss::k) t
 |c9 {id:Nat} {k:List It} {t:List Item} (hk:J8 P num N k t):J8 P num N (.c9 id::k) (.inBlock id::t)
 |lp {c:Code} {a:BH} {k:List It} {t:List Item} (h:FR P num N c a=true) (hk:J8 P num N k t):J8 P num N (.lp a::k) (.inLoop c::t)
 |scope {c:Code} {k:List It} {t:List Item} (hk:J8 P num N k t):J8 P num N k (.inScope c::t)
theorem Adx{b:Frame}{a:Act}{k:List Item}{cs:List Frame}{w:World}{c:Code}:step P (lone (b.at a (.inScope c::k)) cs w) = .next (lone (b.at a k) cs w) :=
 step_lone_go (by simp[stepG,stepG.exec,Frame.at])
theorem AnH{b:Frame}{a:Act}{k:List Item}{cs:List Frame}{w:World}{c:Code}:step P (lone (b.at a (.code (.scope c)::k)) cs w) = .next (lone (b.at a (.code c :: .inScope c::k)) cs w) :=
 step_lone_go (by simp[stepG,stepG.exec,Frame.at])
theorem YD{id:Nat}:∀{k:List It}{t:List Item},J8 P num N k t->∀{k':List It},GS id k=some k'->∃t',exitTo id t=some t'/\J8 P num N k' t'
 |_,_,.nil,k',h=>by simp[GS]at h
 |_,_,.code h0 hk,k',h=>by
  simp only[GS]at h;obtain⟨t',h1,h2⟩:=YD hk h;exact⟨t',by simpa [exitTo]using h1,h2⟩
 |_,_,.drop hk,k',h=>by
  simp only[GS]at h;exact YD hk h
 |_,_,.c9 (id:=Lh) hk,k',h=>by
  simp only[GS]at h;split at h
  ·rename_i he
   subst he;simp only[xa]at h;subst h;exact⟨_,by simp[exitTo],hk⟩
  ·rename_i he
   obtain⟨t',h1,h2⟩:=YD hk h;exact⟨t',by simpa [exitTo,he]using h1,h2⟩
 |_,_,.lp h0 hk,k',h=>by
  simp only[GS]at h;obtain⟨t',h1,h2⟩:=YD hk h;exact⟨t',by simpa [exitTo]using h1,h2⟩
 |_,_,.scope hk,k',h=>by
  obtain⟨t',h1,h2⟩:=YD hk h;exact⟨t',by simpa [exitTo]using h1,h2⟩
def tM(B:Nat)(S:Nat->Prop)(w0:GG)(m0:M)(N:Nat)(P:Program)(b:Frame)(cs:List Frame)(Qy:Machine)(o6:St):Prop :=
 ∃a' m' u9,Steps P Qy (lone { b.at a' u9 with mode := .returning } cs m'.w)/\m'.own=o6.own/\GX B S w0 m0 N (j8 o6.tm) m' a'
theorem Am2{I:E0}(hC:HU I P num C B w0)(b:Frame)(cs:List Frame):∀(n:Nat)(k:List It)(st o6:St),run C n k st=some o6->∀(t:List Item),J8 P num N k t->∀(m:M)(a:Act),m.own=st.own->GX B S w0 m0 N (j8 st.tm) m a ->
  tM B S w0 m0 N P b cs (lone (b.at a t) cs m.w) o6:=by
 intro n;induction n with
 |zero=>intro k st o6 h;simp[run]at h
 |succ n ih=>
  intro k st o6 h t ht;have fin:∀(t:List Item),J8 P num N [] t->∀(m:M)(a:Act),m.own=st.own->GX B S w0 m0 N (j8 st.tm) m a->st=o6->tM B S w0 m0 N P b cs (lone (b.at a t) cs m.w) o6:=by
   intro t ht;generalize hk:([]:List It)=kk at ht;induction ht with
   |nil=>
    intro m a l8 hf he;subst he;exact⟨a,m,[],.one step_end,l8,hf⟩
   |scope jr gv=>
    intro m a l8 hf he;obtain⟨a',m',u9,h1,h2⟩:=gv hk m a l8 hf he;exact⟨a',m',u9,.head Adx h1,h2⟩
   |code=>cases hk
   |drop=>cases hk
   |c9=>cases hk
   |lp=>cases hk
  cases k with
  |nil=>
   intro m a l8 hf;simp only[run,xa]at h;exact fin t ht m a l8 hf h
  |cons it k=>
   generalize jy:it::k=kk at ht;induction ht with
   |nil=>cases jy
   |scope jr gv=>
    intro m a l8 hf;obtain⟨a',m',u9,h1,h2⟩:=gv jy m a l8 hf;exact⟨a',m',u9,.head Adx h1,h2⟩
   | @c9 id k2 t2 jr gv=>
    intro m a l8 hf;obtain⟨rfl,rfl⟩:it = .c9 id/\k=k2:=by simpa using jy
    simp only[run]at h;obtain⟨a',m',u9,h1,h2⟩:=ih k st o6 h t2 jr m a l8 hf;exact⟨a',m',u9,.head step_inBlock h1,h2⟩
   | @lp c ac k2 t2 k8 jr gv=>
    intro m a l8 hf;obtain⟨rfl,rfl⟩:it = .lp ac/\k=k2:=by simpa using jy
    simp only[run]at h;obtain⟨a',m',u9,h1,h2⟩:=ih _ st o6 h (.code c :: .inLoop c::t2) (.code k8 (.lp k8 jr)) m a l8 hf;exact⟨a',m',u9,.head step_inLoop h1,h2⟩
   | @drop ts ss k2 t2 jr gv=>
    intro m a l8 hf;obtain⟨rfl,rfl⟩:it = .qa ts ss/\k=k2:=by simpa using jy
    simp only[run]at h;obtain⟨lj,he⟩:=Aia hf.mem ss;have ot:GX B S w0 m0 N (j8 (cb st.tm ts)) ⟨m.ν,m.own.drop ss,m.w⟩ a:=⟨lj,hf.ext.trans he,λi=>by
     rcases AnY st.tm ts i with h1|h1
     ·rw[h1];exact he.cv (hf.tm i)
     ·rw[h1];exact .any _,hf.size,hf.defers⟩
    obtain⟨a',m',u9,h1,h2,h3⟩:=ih k ⟨cb st.tm ts,st.own.drop ss⟩ o6 h t2 jr ⟨m.ν,m.own.drop ss,m.w⟩ a (by simp[l8]) ot;exact⟨a',m',u9,h1,h2,h3⟩
   | @code c ac k2 t2 k8 jr gv=>
    obtain⟨rfl,rfl⟩:it = .code ac/\k=k2:=by simpa using jy
    clear gv jy;intro m a l8 hf;cases ac with
    |dr ac ts ss=>
     simp only[FR]at k8;simp only[run]at h;exact ih _ st o6 h _ (.code k8 (.drop jr)) m a l8 hf
    |skip=>
     simp only[run]at h;cases c with
     |skip=>
      obtain⟨a',m',u9,h1,h2⟩:=ih _ st o6 h _ jr m a l8 hf;exact⟨a',m',u9,.head step_skip h1,h2⟩
     |label=>
      obtain⟨a',m',u9,h1,h2⟩:=ih _ st o6 h _ jr m a l8 hf;exact⟨a',m',u9,.head step_label h1,h2⟩
     |_=>simp[FR]at k8
    |scope ac=>
     simp only[run]at h;cases c with
     |scope c=>
      simp only[FR]at k8;obtain⟨a',m',u9,h1,h2⟩:=ih _ st o6 h _ (.code k8 (.scope (c:=c) jr)) m a l8 hf;exact⟨a',m',u9,.head AnH h1,h2⟩
     |_=>simp[FR]at k8
    |seq a1 a2=>
     simp only[run]at h;cases c with
     |seq c1 c2=>
      simp only[FR,Oa]at k8;obtain⟨a',m',u9,h1,h2⟩:=ih _ st o6 h _ (.code k8.1 (.code k8.2 jr)) m a l8 hf;exact⟨a',m',u9,.head step_seq h1,h2⟩
     |_=>simp[FR]at k8
    |cond x a1 a2=>
     simp only[run]at h;cases c with
     |cond xc c1 c2=>
      simp only[FR,Oa]at k8;have y7:CV B S m (st.ev x) (a.eval xc):=by rw[yL];exact hf.says xc x k8.1.1
      split at h
      ·rename_i hx
       rw[hx]at y7;obtain⟨a',m',u9,h1,h2⟩:=ih _ st o6 h _ (.code k8.1.2 jr) m a l8 hf;exact⟨a',m',u9,.head (step_cond (VU y7)) h1,h2⟩
      ·rename_i hx
       rw[hx]at y7;obtain⟨a',m',u9,h1,h2⟩:=ih _ st o6 h _ (.code k8.2 jr) m a l8 hf;exact⟨a',m',u9,.head (step_cond (VU y7)) h1,h2⟩
      ·cases h
     |_=>simp[FR]at k8
    |block id ac=>
     simp only[run]at h;cases c with
     |block Lh c=>
      simp only[FR,Oa,beq_iff_eq]at k8;obtain⟨rfl,k8⟩:=k8;obtain⟨a',m',u9,h1,h2⟩:=ih _ st o6 h _ (.code k8 (.c9 jr)) m a l8 hf;exact⟨a',m',u9,.head step_block h1,h2⟩
     |_=>simp[FR]at k8
    |loop ac=>
     simp only[run]at h;cases c with
     |loop c=>
      simp only[FR]at k8;obtain⟨a',m',u9,h1,h2⟩:=ih _ st o6 h _ (.code k8 (.lp k8 jr)) m a l8 hf;exact⟨a',m',u9,.head step_loop h1,h2⟩
     |_=>simp[FR]at k8
    |exit id=>
     simp only[run]at h;cases c with
     |exit Lh=>
      simp only[FR,beq_iff_eq]at k8;subst k8;split at h
      ·rename_i k' pc
       obtain⟨t',e1,e2⟩:=YD jr pc;obtain⟨a',m',u9,h1,h2⟩:=ih _ st o6 h _ e2 m a l8 hf;exact⟨a',m',u9,.head (step_exit e1) h1,h2⟩
      ·cases h
     |_=>simp[FR]at k8
    |ret=>
     simp only[run,xa]at h;subst h;cases c with
     |ret=>exact⟨a,m,.code .ret::t2,.one step_ret,l8,hf⟩
     |_=>simp[FR]at k8
    |ops l draw=>
     simp only[run]at h;split at h
     ·rename_i BA Il
      cases c with
      |region id ops sf=>
       simp only[FR,Oa,beq_iff_eq]at k8;obtain⟨⟨rfl,Hy⟩,ef⟩:=k8;have hwp:(Code.region id ops sf).wp P (λe a' w'=>e = .normal/\∃m',m'.w=w'/\m'.own=BA.own/\GX B S w0 m0 N (j8 BA.tm) m' a') a m.w:=by
        cases sf with
        |true=>exact Aok hC Hy (by simpa using ef) Il l8 hf λm' a' h1 h2=>⟨rfl,m',rfl,h1,h2⟩
        |false=>
         refine wp_region ?_;rw[List.range_eq_range'];exact Zd hC Hy ops.size 0 st BA m a O' (by simpa using Il) l8 hf λm' a' h1 h2=>⟨rfl,m',rfl,h1,h2⟩
       obtain⟨e,a1,w1,⟨rfl,m1,rfl,pf,uw⟩,Cj⟩:=hwp b t2 cs;obtain⟨a',m',u9,h1,h2,h3⟩:=ih _ BA o6 h _ jr m1 a1 pf uw;exact⟨a',m',u9,Steps.trans Cj h1,h2,h3⟩
      |_=>simp[FR]at k8
     ·cases h
end
end Go.e9

namespace Go.e9
open Go.RowKit
section
variable {P:Program} {num:Nat->Nat} {L:Lib}
def ProgOK(P : Program)(num : Nat → Nat)(L : Lib) : Prop := (∀ f fa, L f = some fa → ∃ fn, P.funcs[num f]? = some fn ∧ okFn P num fn fa = true ∧ (fn.name == "runtime.NumGoroutine") = false) ∧ L.num = num
theorem Rm:∀(args:w_)(k i:Nat),j8 (CU k args) i=if k<=i then(match args[i-k]? with|some v=>v|none=>.any)else .any
 |[],k,i=>by simp[CU,j8]
 |v::r,k,i=>by
  simp only[CU,j8];by_cases h:i=k
  ·subst h;simp
  ·rw[if_neg h,Rm r (k+1) i]
   by_cases h2:k<=i
   ·rw[if_pos h2,if_pos O']
    have:i-k=(i-(k+1))+1:=O'
    rw[this];simp
   ·rw[if_neg h2,if_neg O']
section
variable {B:Nat} {S:Nat->Prop} {w0:GG} {m0:M} {N:Nat}
def jB(tmps:Array Value):ResultVar->Sem Value
 |.tmp t=>pure (tmps.getD t undef)
 |.cell x t=>do loadVar t (<-asAddr (tmps.getD x undef))
theorem Agr{m:M}{x v:AV}{u:Value}(h:KH x=some v)(y7:CV B S m x u):CA B S m v u:=by
 cases y7 with
 |any=>simp[KH]at h
 |j5=>simp[KH]at h
 |ca hc=>
  have:x=v:=by
   cases hc with
   |one hc=>cases hc with
    |rd hr=>cases hr<;>simpa [KH]using h
    |_=>simpa [KH]using h
   |fn=>simpa [KH]using h
   |um=>simpa [KH]using h
   |agg=>simpa [KH]using h
  subst this;exact hc
theorem qZ{m:M}{a:Act}{st:St}(hf:GX B S w0 m0 N (j8 st.tm) m a)(l8:m.own=st.own):∀{rv:List ResultVar}{ra:List LS}{vs:w_},N8 P rv ra=true->ra.mapM (GE st)=some vs ->
  ∃us:List Value,(rv.mapM (jB a.tmps)).run P m.w = .ok us m.w/\vs.length=us.length/\∀(j:Nat)(c:AV)(v:Value),vs[j]?=some c->us[j]?=some v->CA B S m c v
 |[],[],vs,_,h=>by
  simp at h;subst h;exact⟨[],Z',rfl,λj c v hc=>by simp at hc⟩
 |.tmp t::r,.tmp t'::l,vs,k8,h=>by
  simp only[N8,Oa,beq_iff_eq]at k8;obtain⟨rfl,k8⟩:=k8;simp only[na,wc,kc]at h;cases hv:GE st (.tmp t)with
  |none=>simp[hv]at h
  |some v=>
   cases hr:l.mapM (GE st)with
   |none=>simp[hv,hr]at h
   |some vr=>
    simp[hv,hr]at h;subst h;obtain⟨us,h1,h2,h3⟩:=qZ hf l8 k8 hr;have y7:=hf.tm t;have su:CA B S m v (a.tmps.getD t undef):=Agr hv y7;refine⟨a.tmps.getD t undef::us,?_,by simp[h2],λj c u hc hu=>?_⟩
    ·simp only[na,Sem.run_bind,jB,Sem.run_pure,Result.andThen_ok,h1]
    ·cases j with
     |zero=>
      obtain rfl:v=c:=by simpa using hc
      obtain rfl:a.tmps.getD t undef=u:=ta hu;exact su
     |succ j=>exact h3 j c u (by simpa using hc) (by simpa using hu)
 |.cell x t::r,.cell x' agg n::l,vs,k8,h=>by
  simp only[N8,Oa,beq_iff_eq]at k8;obtain⟨⟨⟨rfl,kj⟩,hn⟩,k8⟩:=k8;simp only[na,wc,kc]at h;cases hv:GE st (.cell x agg n)with
  |none=>simp[hv]at h
  |some v=>
   cases hr:l.mapM (GE st)with
   |none=>simp[hv,hr]at h
   |some vr=>
    simp[hv,hr]at h;subst h;obtain⟨us,h1,h2,h3⟩:=qZ hf l8 k8 hr;have y7:=hf.tm x;simp only[GE]at hv;split at hv
    ·rename_i s u i j hx
     rw[hx]at y7;split at hv
     ·rename_i cs lu
      rw[<-l8]at lu;obtain⟨ad,de,ht,hb⟩:=X4 y7;obtain⟨b,g,arr,e,o5,hg,df,mf,u6,iq⟩:=Yk hf.mem (aD y7) lu;obtain⟨ABC,mb⟩:=iO hv u6;have hld:=rG (P:=P) t agg n (kX (by simpa using kj)) (by
       cases agg
       ·simpa using hn
       ·exact QG (by simpa using hn)) ad df mf m.w (λq u' hq=>by
       have k7:q<df.length:=(zS hq).1;obtain⟨yz,jo⟩:=hg O';obtain⟨g',di,rfl⟩:=hb b o5;obtain rfl:g=g':=by rw[yz]at di;simpa using di
       rw[JA,VO jo];exact iq q u' hq)
      have Ox:(jB a.tmps (.cell x t)).run P m.w = .ok (if agg then .agg df.toArray else df.getD 0 undef) m.w:=by
       show(do loadVar t (<-asAddr (a.tmps.getD x undef)):Sem Value).run P m.w=_;rw[de];simpa [asAddr,Instr.loadAt,Instr.sureAddr]using hld
      have su:CA B S m v (if agg then .agg df.toArray else df.getD 0 undef):=by
       unfold NC at hv;cases agg with
       |true=>
        simp only[if_true,xa]at hv;subst hv;exact .agg cs df u6
       |false=>
        simp only[vb,if_false]at hv⊢;split at hv
        ·rename_i c
         simp only[xa]at hv;subst hv;obtain⟨u',lk,ck⟩:=X0 u6 (j:=0) (c:=c) rfl;simp only[List.getD,lk,Option.getD_some];exact .one ck
        ·cases hv
      refine⟨(if agg then .agg df.toArray else df.getD 0 undef)::us,?_,by simp[h2],λj' c u' hc hu=>?_⟩
      ·rw[na,Sem.run_bind,Ox,Result.andThen_ok,Sem.run_bind,h1,Result.andThen_ok]
       rfl
      ·cases j' with
       |zero=>
        obtain rfl:v=c:=by simpa using hc
        obtain rfl:=ta hu;exact su
       |succ j'=>exact h3 j' c u' (by simpa using hc) (by simpa using hu)
     ·cases hv
    ·cases hv
 |[],_::_,_,k8,_=>by simp[N8]at k8
 |.tmp _::_,[],_,k8,_=>by simp[N8]at k8
 |.cell _ _::_,[],_,k8,_=>by simp[N8]at k8
 |.tmp _::_,.cell _ _ _::_,_,k8,_=>by simp[N8]at k8
 |.cell _ _::_,.tmp _::_,_,k8,_=>by simp[N8]at k8
end
theorem vC(hP:ProgOK P num L){f:Nat}{fa:AFn}(hL:L f=some fa)(us:Array Value)(w:World):(callFunc (num f) us).run P w = .ok (.enter (num f) us) w:=by
 obtain⟨fn,h1,h2,h3⟩:=hP.1 f fa hL;have hb:fn.body.isNone=false:=by
  simp only[okFn,Oa]at h2;cases hbd:fn.body with
  |none=>rw[hbd]at h2;simp at h2
  |some c=>rfl
 unfold callFunc;simp only[Sem.run_bind,run_program,Result.andThen_ok,h1,h3,hb,vb,if_false,Sem.run_pure]
theorem Ro(hP:ProgOK P num L){I:E0}{n:Nat}(hC:dA I P num (CZ L n)){f:Nat}{vs:w_}{own:Own}{r:AV}{q8:Own}(h:D4 L (n+1) f vs own=some (r,q8))(B:Nat)(S:Nat->Prop)(w0:GG)(m:M)(us:List Value)(Mt:I.b0<=B)(Mw:I.ok w0.w)(Mu:w0.D->I.D)(l8:m.own=own)(hm:BJ B S w0 m)(hl:vs.length=us.length)
  (y7:∀(j:Nat)(c:AV)(v:Value),vs[j]?=some c->us[j]?=some v->CV B S m c v) :
  Calls P (num f) us.toArray m.w λe w'=>∃u m',e = .returned u/\m'.w=w'/\m'.own=q8/\BJ B S w0 m'/\DB B S m m'/\CV B S m' r u:=by
 rw[YA]at h;cases hL:L f with
 |none=>simp[hL]at h
 |some fa=>
  simp only[hL]at h;split at h
  ·rename_i Hz
   split at h
   ·rename_i st w9
    split at h
    ·rename_i rvs ng
     simp only[xa,Qa]at h;obtain⟨rfl,rfl⟩:=h;obtain⟨fn,h1,h2,h3⟩:=hP.1 f fa hL;simp only[okFn,Oa,beq_iff_eq,decide_eq_true_eq]at h2;obtain⟨⟨⟨h4,h5⟩,h6⟩,h7⟩:=h2;split at h7
     ·rename_i c hc
      intro cs;have Cs:Frame.enter P (num f) us.toArray .normal=({ (default:Frame)with fn:=num f,kind := .normal }:Frame).at { tmps:=us.toArray++xb (fn.ntmps-us.toArray.size) undef,defers:=[] } [.code c]:=by
       simp[Frame.enter,Frame.at,h1,hc]
      have x8:us.length=fa.cr:=by rw[<-hl];exact Hz
      have Oi:GX B S w0 m fn.ntmps (j8 (CU 0 vs)) m { tmps:=us.toArray++xb (fn.ntmps-us.toArray.size) undef,defers:=[] }:=by
       refine⟨hm,DB.refl m,λi=>?_,by simp;omega,rfl⟩;rw[Rm];simp only[Nat.zero_le,if_true,Nat.sub_zero];cases Iv:vs[i]? with
       |none=>exact .any _
       |some v=>
        have hi:i<us.length:=by rw[<-hl];exact(zS Iv).1
        have o5:(us.toArray++xb (fn.ntmps-us.toArray.size) undef).getD i undef=us[i]:=by
         rw[Array.getD_eq_getD_getElem?,Array.getElem?_append_left (by simpa using hi)];simp[hi]
        simp only[o5];exact y7 i v us[i] Iv (zE hi)
      obtain⟨a',m',u9,Dl,mo,ot⟩:=Am2 (m0:=m) (⟨hC,Mt,Mw,Mu⟩:HU I P num (CZ L n) B w0) { (default:Frame)with fn:=num f,kind := .normal } cs n [.code fa.body] ⟨CU 0 vs,own⟩ st w9 [.code c] (.code h7 .nil) m _ l8 Oi;obtain⟨yh,Dp,vd,hu3⟩:=qZ (P:=P) ot mo h6 ng;have zm:(results fn a'.tmps).run P m'.w = .ok (if h:yh.length=1 then yh[0]else .tuple yh.toArray) m'.w:=by
       have hr:results fn a'.tmps=(do let vs <-fn.results.mapM (jB a'.tmps);pure (if h:vs.size=1 then vs[0]else .tuple vs)):=rfl;rw[hr,Sem.run_bind,Array.mapM_eq_mapM_toList];simp[Dp]
      refine⟨.returned (if h:yh.length=1 then yh[0]else .tuple yh.toArray),m'.w,_,⟨_,m',rfl,rfl,mo,ot.mem,ot.ext,?_⟩,by rw[Cs];exact Dl,rfl,rfl,ot.defers,rfl,fn,h1,zm⟩;unfold J2;split
      ·rename_i v
       have vj:yh.length=1:=by rw[<-vd];rfl
       rw[dif_pos vj];exact .ca (hu3 0 v yh[0] rfl (zE O'))
      ·rename_i q6
       have vj:¬yh.length=1:=λe=>by
        rw[<-vd]at e;cases rvs with
        |nil=>simp at e
        |cons q qs=>cases qs with
         |nil=>exact q6 q rfl
         |cons=>simp at e
       rw[dif_neg vj];exact .j5 rvs yh vd hu3
     ·cases h7
    ·cases h
   ·cases h
  ·cases h
theorem AlF(S:Nat->Prop)(w:World)(D:Prop):BJ w.heap.size S ⟨w,D⟩ ⟨λ_ _=>none,Own.emp,w⟩ :=
 ⟨D7.refl _ _ _,ma _,λ_ _ _=>rfl,λs t b h=>by simp[Own.get,Own.emp]at h,λs t s' t' b b' g h=>by simp[Own.get,Own.emp]at h⟩
theorem Aiq{n f:Nat}{vs:w_}{own:Own}{r:AV×Own}(h:D4 L n f vs own=some r):∃fa,L f=some fa:=by
 cases n with
 |zero=>simp[D4]at h
 |succ n=>
  rw[YA]at h;cases hL:L f with
  |none=>simp[hL]at h
  |some fa=>exact⟨fa,rfl⟩
theorem qM{n f:Nat}{vs:w_}{r:AV}(h:JW (λvs=>D4 L n f vs Own.emp) vs=some r):∃r0 o,D4 L n f vs Own.emp=some (r0,o)/\UY o false r0=some r/\AY r:=by
 unfold JW at h;cases he:D4 L n f vs Own.emp with
 |none=>simp[he]at h
 |some x=>
  obtain⟨r0,o⟩:=x;simp only[he]at h;split at h
  ·rename_i r' hr
   split at h
   ·rename_i hc
    simp only[xa]at h;subst h;exact⟨r0,o,rfl,hr,hc⟩
   ·cases h
  ·cases h
theorem Ait{n f:Nat}{vs:w_}{r:AV}{fa:AFn}(hL:L f=some fa)(h:F9 L n f vs=some r):∃df,∃x,D4 L n f df Own.emp=some x:=by
 unfold F9 OA N9 at h;simp only[hL]at h;split at h
 ·split at h
  ·rename_i r1 r2 h1 h2
   obtain⟨r0,o,h3,_⟩:=qM h1;exact⟨_,_,h3⟩
  ·cases h
 ·obtain⟨r0,o,h3,_⟩:=qM h
  exact⟨_,_,h3⟩
theorem yA{n f:Nat}{vs:w_}{r:AV}(hL:L f=none)(h:F9 L n f vs=some r):L.ext f vs=some r/\AY r:=by
 unfold F9 OA at h;simp only[hL]at h;split at h
 ·rename_i r' hr
  split at h
  ·rename_i hc
   obtain rfl:=ta h;exact⟨hr,hc⟩
  ·cases h
 ·cases h
structure XN(I:E0)(P:Program)(num:Nat->Nat)(L:Lib):Prop where
 ok:ProgOK P num L
 enter:∀(f:Nat)(vs:w_)(r:AV),L f=none->L.ext f vs=some r->∀(us:Array Value)(w:World),(callFunc (num f) us).run P w = .ok (.enter (num f) us) w
 ext:∀(f:Nat)(vs:w_)(r:AV),L f=none->L.ext f vs=some r->AY r->∀(S:Nat->Prop)(w:World)(us:List Value),I.ok w->vs.length=us.length->(∀(j:Nat)(c:AV)(v:Value),vs[j]?=some c->us[j]?=some v->CA w.heap.size S ⟨λ_ _=>none,Own.emp,w⟩ c v) ->
  Calls P (num f) us.toArray w λe w'=>∃u,e = .returned u/\D7 I.D w.heap.size w w'/\CV w.heap.size S ⟨λ_ _=>none,Own.emp,w'⟩ r u/\AY r
 cmp:tL P num L.cmp
 fm:∀(fs k:Nat),L.fo fs=some k->dQ P (num fs) k
theorem XN.of{I:E0}(h:ProgOK P num L)(he:∀f vs,L.ext f vs=none)(hc:∀f vs,L.cmp f vs=none)(hs:∀f,L.fo f=none):XN I P num L:=⟨h,λf vs r _ hx=>by rw[he]at hx;(cases hx),λf vs r _ hx=>by rw[he]at hx;(cases hx),λf vs r hx=>by rw[hc]at hx;(cases hx),λf k hx=>by rw[hs]at hx;(cases hx)⟩
theorem qN(hP:ProgOK P num L){I:E0}{n:Nat}(ih:dA I P num (CZ L n)){f:Nat}{vs:w_}{r:AV}(h:JW (λvs=>D4 L (n+1) f vs Own.emp) vs=some r)(S:Nat->Prop)(w:World)(us:List Value)(hw:I.ok w)(hl:vs.length=us.length)
  (su:∀(j:Nat)(c:AV)(v:Value),vs[j]?=some c->us[j]?=some v->CA w.heap.size S ⟨λ_ _=>none,Own.emp,w⟩ c v) :
  Calls P (num f) us.toArray w λe w'=>∃u,e = .returned u/\D7 I.D w.heap.size w w'/\CV w.heap.size S ⟨λ_ _=>none,Own.emp,w'⟩ r u/\AY r:=by
 obtain⟨r0,o,h1,h2,h3⟩:=qM (L:=L) h;refine Calls.mono (Ro hP ih h1 w.heap.size S ⟨w,I.D⟩ ⟨λ_ _=>none,Own.emp,w⟩ us (I.size _ hw) hw id rfl (AlF S w I.D) hl λj c v hc hv=>.ca (su j c v hc hv)) λe w' ⟨u,m',he,hw,l8,lj,_,y7⟩=>?_
 subst hw;refine⟨u,he,lj.below,?_,h3⟩;refine DV.cv (m:=⟨λ_ _=>none,Own.emp,m'.w⟩) (Ano lj false (safe w.heap.size S ⟨λ_ _=>none,Own.emp,m'.w⟩) (λl b hb hs=>?_) (λs t g js hg=>?_) (by rw[l8];exact h2) y7)
 ·rcases hs with h|⟨h,_⟩|h
  ·exact .inl h
  ·exact .inr (.inl ⟨h,λs t js=>by simp[Own.get,Own.emp]at js⟩)
  ·exact .inr (.inr h)
 ·exact .inr (.inl ⟨(lj.ge js hg).1,λs t js=>by simp[Own.get,Own.emp]at js⟩)
theorem vD{I:E0}(hP:XN I P num L):∀n,dA I P num (CZ L n):=by
 intro n;have told:∀n f vs r,L f=none->F9 L n f vs=some r->∀(S:Nat->Prop)(w:World)(us:List Value),I.ok w->vs.length=us.length->(∀(j:Nat)(c:AV)(v:Value),vs[j]?=some c->us[j]?=some v->CA w.heap.size S ⟨λ_ _=>none,Own.emp,w⟩ c v) ->
   Calls P (num f) us.toArray w λe w'=>∃u,e = .returned u/\D7 I.D w.heap.size w w'/\CV w.heap.size S ⟨λ_ _=>none,Own.emp,w'⟩ r u/\AY r:=λn f vs r hL h=>by
  obtain⟨h1,h2⟩:=yA hL h;exact hP.ext f vs r hL h1 h2
 have Bw:∀n f vs r,F9 L n f vs=some r->∀(us:Array Value)(w:World),(callFunc (num f) us).run P w = .ok (.enter (num f) us) w:=λn f vs r h us w=>by
  cases hL:L f with
  |some fa=>exact vC hP.ok hL us w
  |none=>exact hP.enter f vs r hL (yA hL h).1 us w
 induction n with
 |zero=>
  exact⟨λf vs r h=>Bw 0 f vs r h,λf vs own r h=>by change D4 L 0 f vs own=some r at h;simp[D4]at h,
   λf vs r h=>by
    cases hL:L f with
    |none=>exact told 0 f vs r hL h
    |some fa=>obtain⟨df,x,h1⟩:=Ait (L:=L) (n:=0) (f:=f) (vs:=vs) (r:=r) hL h;simp[D4]at h1,λf vs own r q8 h=>by change D4 L 0 f vs own=_ at h;simp[D4]at h,hP.cmp,hP.fm,hP.ok.2⟩
 |succ n ih=>
  refine⟨λf vs r h us w=>Bw (n+1) f vs r h us w,λf vs own r h us w=>?_,λf vs r h S w us hw hl su=>?_,λf vs own r q8 h B S w0 m us Mt Mw Mu l8 hm hl y7=>Ro hP.ok ih h B S w0 m us Mt Mw Mu l8 hm hl y7,hP.cmp,hP.fm,hP.ok.2⟩
  ·obtain⟨fa,hL⟩:=Aiq (L:=L) h
   exact vC hP.ok hL us w
  ·cases hL:L f with
   |none=>exact told (n+1) f vs r hL h S w us hw hl su
   |some fa=>
   have h:N9 (L.tk f) (λvs=>D4 L (n+1) f vs Own.emp) vs=some r:=by
    have h:F9 L (n+1) f vs=some r:=h;unfold F9 OA at h;simp only[hL]at h;exact h
   unfold N9 at h;split at h
   ·rename_i q df _ _
    split at h
    ·rename_i r1 r2 h1 h2
     split at h
     ·rename_i e
      subst e;obtain rfl:=ta h;cases us with
      |nil=>simp at hl
      |cons u us=>
       have h0:=su 0 _ u rfl rfl;have hu:∃a cap,u = .slice a 0 cap:=by
        cases h0 with
        |one h0=>cases h0 with
         |rd h0=>cases h0 with
          |jl l a cap=>exact⟨a,cap,rfl⟩
          |sl l es b o a7 cap u q6=>exact absurd rfl q6
       obtain⟨a,cap,rfl⟩:=hu;have key:∀b,a.isNone=b->∀(j:Nat)(c:AV)(v:Value),(AV.y8 (.bool b)::df)[j]?=some c->(Value.slice a 0 cap::us)[j]?=some v->CA w.heap.size S ⟨λ_ _=>none,Own.emp,w⟩ c v:=λb hb j c v hc hv=>by
        cases j with
        |zero=>
         obtain rfl:=ta hc;obtain rfl:=ta hv;exact .one (.rd (.emp b a cap hb))
        |succ j=>exact su (j+1) c v hc hv
       cases hb:a.isNone with
       |true=>exact qN hP.ok ih h1 S w _ hw (by simpa using hl) (key true hb)
       |false=>exact qN hP.ok ih h2 S w _ hw (by simpa using hl) (key false hb)
     ·cases h
    ·cases h
   ·exact qN hP.ok ih h S w us hw hl su
end
end Go.e9
namespace Go.e9
abbrev OkF(P : Program)(num : Nat → Nat)(p : Nat × AFn) : Prop := ∃ fn, P.funcs[num p.1]? = some fn ∧ okFn P num fn p.2 = true ∧ (fn.name == "runtime.NumGoroutine") = false
theorem Amp{P:Program}{num:Nat->Nat}(l:List (Nat×AFn))(h:∀p∈l,OkF P num p):ProgOK P num { fn:=λf=>l.lookup f,num:=num }:=by
 refine⟨?_,rfl⟩;intro f fa hf;have hm:(f,fa)∈l:=by
  clear h;change l.lookup f=some fa at hf;induction l with
  |nil=>simp at hf
  |cons x r ih=>
   obtain⟨k,v⟩:=x;rw[List.lookup_cons]at hf;cases hk:(f == k)with
   |true=>
    rw[hk]at hf;have:f=k:=by simpa using hk
    subst this;simp at hf;simp[hf]
   |false=>
    rw[hk]at hf;exact qb _ (ih hf)
 exact h (f,fa) hm
end Go.e9

namespace Go.e9
section
variable {L:Lib}
def Cl.le(C C':Cl):Prop:=(∀f vs r,C.pure f vs=some r->C'.pure f vs=some r)/\(∀f vs o r,C.gi f vs o=some r->C'.gi f vs o=some r)/\C.num=C'.num/\C.cmp=C'.cmp/\C.fo=C'.fo
theorem uP{x y:Option (AV×Own)}{r:Nat×v_}(h:∀q,x=some q->y=some q)(hr:OL x=some r):OL y=some r:=by
 cases x with
 |none=>simp[OL]at hr
 |some q=>rw[h q rfl];exact hr
theorem Aik{C C':Cl}(h:C.le C'){b9:u_}{ρ:AL->AV}{own:Own}{op:EF}{E:B9}(he:j4 C b9 ρ own op=some E):j4 C' b9 ρ own op=some E:=by
 cases op with
 |call f xs=>
  simp only[j4]at he⊢;split at he
  ·rename_i vs iq
   simp only[ga]at he⊢;obtain⟨r,hr,rfl⟩:=he;exact⟨r,h.1 f vs r hr,rfl⟩
  ·cases he
 |j6 f xs=>
  simp only[j4]at he⊢;split at he
  ·simp only[ga]at he⊢
   obtain⟨p,hp,rfl⟩:=he;have h1:=dZ hp;exact⟨p,dY h1.1 λo ho=>h.2.1 f _ o _ (h1.2 o ho),rfl⟩
  ·simp only[ga]at he⊢
   obtain⟨r,hr,rfl⟩:=he;exact⟨r,h.2.1 f _ own r hr,rfl⟩
 |qm p f xs=>simp only[j4]at he⊢;rw[<-h.2.2.1];exact he
 |fm fs f a7 x c=>simp only[j4]at he⊢;rw[<-h.2.2.1,<-h.2.2.2.1,<-h.2.2.2.2];exact he
 |dh s f xs=>
  simp only[j4,ga]at he⊢;obtain⟨p,hp,rfl⟩:=he;exact⟨p,eB.2 λo ho=>h.2.1 f _ o _ (eB.1 hp o ho),rfl⟩
 |y5 s f xs=>
  simp only[j4]at he⊢;split at he
  ·rename_i vs iq
   simp only[ga]at he⊢;obtain⟨r,hr,rfl⟩:=he;exact⟨r,uP (h.2.1 f vs Own.emp) hr,rfl⟩
  ·cases he
 |o8 f xs=>
  simp only[j4]at he⊢;split at he
  ·rename_i hq
   rw[if_pos hq];split at he
   ·rename_i r hr
    rw[h.1 _ _ r hr];exact he
   ·cases he
  ·cases he
 |v8 x xs=>
  simp only[j4]at he⊢;rw[<-h.2.2.1];split at he
  ·split at he
   ·rename_i hg
    rw[if_pos hg];split at he
    ·split at he
     ·rename_i vs iq
      simp only[ga]at he⊢;obtain⟨r,hr,rfl⟩:=he;exact⟨r,h.1 _ vs r hr,rfl⟩
     ·cases he
    ·simp only[ga]at he⊢
     obtain⟨r,hr,rfl⟩:=he;exact⟨r,h.2.1 _ _ own r hr,rfl⟩
    ·split at he
     ·rename_i vs iq
      simp only[ga]at he⊢;obtain⟨r,hr,rfl⟩:=he;exact⟨r,h.1 _ vs r hr,rfl⟩
     ·cases he
   ·cases he
  ·cases he
 |_=>exact he
theorem AnE{C C':Cl}(h:C.le C'){o:AI}{st o6:St}(he:C5 C o st=some o6):C5 C' o st=some o6:=by
 unfold C5 at he⊢;split at he
 ·simp only[ga]at he⊢
  obtain⟨E,h1,h2⟩:=he;exact⟨E,Aik h h1,h2⟩
 ·exact he
 ·exact he
theorem OD{C C':Cl}(h:C.le C'):∀{l:List AI}{st o6:St},DT C l st=some o6->DT C' l st=some o6
 |[],st,o6,he=>he
 |o::r,st,o6,he=>by
  simp only[DT]at he⊢;cases hs:C5 C o st with
  |none=>simp[hs]at he
  |some BA=>
   rw[AnE h hs];simp only[hs]at he;exact OD h he
theorem OC{C C':Cl}(h:C.le C'):∀{n n':Nat}{k:List It}{st o6:St},n<=n'->run C n k st=some o6->run C' n' k st=some o6:=by
 intro n;induction n with
 |zero=>intro n' k st o6 _ hr;simp[run]at hr
 |succ n ih=>
  intro n' k st o6 hn hr;obtain⟨q,rfl⟩:∃q,n'=q+1:=⟨n'-1,O'⟩;have hq:n<=q:=O'
  cases k with
  |nil=>exact hr
  |cons it k=>
   cases it with
   |c9 id=>simp only[run]at hr⊢;exact ih hq hr
   |qa ts ss=>simp only[run]at hr⊢;exact ih hq hr
   |lp c=>simp only[run]at hr⊢;exact ih hq hr
   |code c=>
    cases c with
    |skip=>simp only[run]at hr⊢;exact ih hq hr
    |ops l d=>
     simp only[run]at hr⊢;cases hs:DT C l st with
     |none=>simp[hs]at hr
     |some BA=>
      rw[OD h hs];simp only[hs]at hr;exact ih hq hr
    |dr c ts ss=>simp only[run]at hr⊢;exact ih hq hr
    |scope c=>simp only[run]at hr⊢;exact ih hq hr
    |seq a b=>simp only[run]at hr⊢;exact ih hq hr
    |cond x a b=>
     simp only[run]at hr⊢;split at hr
     ·exact ih hq hr
     ·exact ih hq hr
     ·cases hr
    |block id c=>simp only[run]at hr⊢;exact ih hq hr
    |loop c=>simp only[run]at hr⊢;exact ih hq hr
    |exit id=>
     simp only[run]at hr⊢;split at hr
     ·exact ih hq hr
     ·cases hr
    |ret=>exact hr
theorem bU{I I':w_->Option (AV×Own)}(hI:∀vs r,I vs=some r->I' vs=some r){vs:w_}{r:AV}(h:JW I vs=some r):JW I' vs=some r:=by
 unfold JW at h⊢;cases he:I vs with
 |none=>simp[he]at h
 |some x=>rw[hI vs _ he];simpa [he]using h
theorem Ams{b:Bool}{I I':w_->Option (AV×Own)}(hI:∀vs r,I vs=some r->I' vs=some r){vs:w_}{r:AV}(h:N9 b I vs=some r):N9 b I' vs=some r:=by
 unfold N9 at h⊢;split at h
 ·split at h
  ·rename_i r1 r2 h1 h2
   rw[bU hI h1,bU hI h2];exact h
  ·cases h
 ·exact bU hI h
theorem yS:∀(n:Nat),(CZ L n).le (CZ L (n+1)):=by
 have gi:∀n,(∀f vs o r,D4 L n f vs o=some r->D4 L (n+1) f vs o=some r)->∀f vs r,F9 L n f vs=some r->F9 L (n+1) f vs=some r:=by
  intro n hI f vs r h;unfold F9 OA at h⊢;cases hL:L f with
  |none=>simp only[hL]at h⊢;exact h
  |some fa=>simp only[hL]at h⊢;exact Ams (λvs r h=>hI f vs _ r h) h
 intro n;induction n with
 |zero=>
  have:∀f vs o r,D4 L 0 f vs o=some r->D4 L 1 f vs o=some r:=λf vs o r h=>by simp[D4]at h
  exact⟨gi 0 this,this,rfl,rfl,rfl⟩
 |succ n ih=>
  have:∀f vs o r,D4 L (n+1) f vs o=some r->D4 L (n+2) f vs o=some r:=λf vs o r h=>by
   rw[YA]at h⊢;cases hL:L f with
   |none=>simp[hL]at h
   |some fn=>
    simp only[hL]at h⊢;split at h
    ·rename_i hp
     rw[if_pos hp];cases hr:run (CZ L n) n [.code fn.body] ⟨CU 0 vs,o⟩with
     |none=>simp[hr]at h
     |some st=>
      rw[OC ih (Nat.le_succ n) hr];simpa [hr]using h
    ·cases h
  exact⟨gi (n+1) this,this,rfl,rfl,rfl⟩
theorem GK{n n':Nat}(h:n<=n'):(CZ L n).le (CZ L n'):=by
 induction h with
 |refl=>exact⟨λ_ _ _ h=>h,λ_ _ _ _ h=>h,rfl,rfl,rfl⟩
 |step _ ih=>exact⟨λf vs r h=>(yS _).1 f vs r (ih.1 f vs r h),λf vs o r h=>(yS _).2.1 f vs o r (ih.2.1 f vs o r h),rfl,rfl,rfl⟩
def Ev(L:Lib)(f:Nat)(vs:w_)(r:AV):Prop := ∃n,F9 L n f vs=some r
def G8(L:Lib)(f:Nat)(vs:w_)(r:AV):Prop := ∃n,JW (λvs=>D4 L n f vs Own.emp) vs=some r
def IB(L:Lib)(f:Nat)(vs:w_)(o:Own)(r:AV)(o':Own):Prop := ∃n,D4 L n f vs o=some (r,o')
def NS(L:Lib)(f:Nat)(vs:w_)(z:Nat)(es:v_):Prop := ∃n,OL (D4 L n f vs Own.emp)=some (z,es)
theorem Ev.Ah{f:Nat}{vs:w_}{r r':AV}(h:Ev L f vs r)(h':Ev L f vs r'):r=r':=by
 obtain⟨n,hn⟩:=h;obtain⟨n',wi⟩:=h';have h1:=(GK (L:=L) (Pa n n')).1 f vs r hn;have h2:=(GK (L:=L) (ea n n')).1 f vs r' wi;rw[h1]at h2;exact ta h2
theorem IB.Ah{f:Nat}{vs:w_}{o:Own}{r r':AV}{o1 o2:Own}(h:IB L f vs o r o1)(h':IB L f vs o r' o2):r=r'/\o1=o2:=by
 obtain⟨n,hn⟩:=h;obtain⟨n',wi⟩:=h';have h1:=(GK (L:=L) (Pa n n')).2.1 f vs o _ hn;have h2:=(GK (L:=L) (ea n n')).2.1 f vs o _ wi;rw[h1]at h2;simpa using h2
def AK(L:Lib)(k:List It)(st:St)(Q:St->Prop):Prop := ∃n c o6,run (CZ L c) n k st=some o6/\Q o6
def AO(L:Lib)(l:List AI)(k:List It)(st:St)(Q:St->Prop):Prop := ∃n c BA o6,DT (CZ L c) l st=some BA/\run (CZ L c) n k BA=some o6/\Q o6
variable {k:List It} {st:St} {Q:St->Prop}
theorem MG{it:It}{k':List It}{BA:St}(h:∀(C:Cl)(n:Nat),run C (n+1) (it::k) st=run C n k' BA):AK L (it::k) st Q↔AK L k' BA Q:=by
 constructor
 ·rintro⟨n,c,o6,hr,hq⟩
  cases n with
  |zero=>simp[run]at hr
  |succ n=>exact⟨n,c,o6,by rw[<-h];exact hr,hq⟩
 ·rintro⟨n,c,o6,hr,hq⟩
  exact⟨n+1,c,o6,by rw[h];exact hr,hq⟩
theorem Aev:AK L [] st Q↔Q st:=by
 constructor
 ·rintro⟨n,c,o6,hr,hq⟩
  cases n with
  |zero=>simp[run]at hr
  |succ n=>simp only[run,xa]at hr;exact hr▸hq
 ·exactλh=>⟨1,0,st,rfl,h⟩
theorem Aen{id:Nat}:AK L (.c9 id::k) st Q↔AK L k st Q:=MG λ_ _=>rfl
theorem Aer{ts ss:u_}:AK L (.qa ts ss::k) st Q↔AK L k ⟨cb st.tm ts,st.own.drop ss⟩ Q:=MG λ_ _=>rfl
theorem tH{c:BH}:AK L (.lp c::k) st Q↔AK L (.code c :: .lp c::k) st Q:=MG λ_ _=>rfl
theorem AeA:AK L (.code .skip::k) st Q↔AK L k st Q:=MG λ_ _=>rfl
theorem Aeq{c:BH}{ts ss:u_}:AK L (.code (.dr c ts ss)::k) st Q↔AK L (.code c :: .qa ts ss::k) st Q:=MG λ_ _=>rfl
theorem Aey{c:BH}:AK L (.code (.scope c)::k) st Q↔AK L (.code c::k) st Q:=MG λ_ _=>rfl
theorem Aez{a b:BH}:AK L (.code (.seq a b)::k) st Q↔AK L (.code a :: .code b::k) st Q:=MG λ_ _=>rfl
theorem Aeo{id:Nat}{c:BH}:AK L (.code (.block id c)::k) st Q↔AK L (.code c :: .c9 id::k) st Q:=MG λ_ _=>rfl
theorem Aet{c:BH}:AK L (.code (.loop c)::k) st Q↔AK L (.code c :: .lp c::k) st Q:=MG λ_ _=>rfl
theorem Aes{id:Nat}{k':List It}(h:GS id k=some k'):AK L (.code (.exit id)::k) st Q↔AK L k' st Q:=MG λC n=>by simp[run,h]
theorem Aex:AK L (.code .ret::k) st Q↔Q st:=by
 constructor
 ·rintro⟨n,c,o6,hr,hq⟩
  cases n with
  |zero=>simp[run]at hr
  |succ n=>simp only[run,xa]at hr;exact hr▸hq
 ·exactλh=>⟨1,0,st,rfl,h⟩
theorem Aep{x:AL}{a b:BH}{t:Bool}(h:st.ev x = .bool t):AK L (.code (.cond x a b)::k) st Q↔if t=true then AK L (.code a::k) st Q else AK L (.code b::k) st Q:=by
 cases t
 ·simpa using MG (k' := .code b::k) (BA:=st) λC n=>by simp[run,h]
 ·simpa using MG (k' := .code a::k) (BA:=st) λC n=>by simp[run,h]
theorem Aew{l:List AI}{d:Bool}:AK L (.code (.ops l d)::k) st Q↔AO L l k st Q:=by
 constructor
 ·rintro⟨n,c,o6,hr,hq⟩
  cases n with
  |zero=>simp[run]at hr
  |succ n=>
   simp only[run]at hr;split at hr
   ·rename_i BA hs
    exact⟨n,c,BA,o6,hs,hr,hq⟩
   ·cases hr
 ·rintro⟨n,c,BA,o6,hs,hr,hq⟩
  exact⟨n+1,c,o6,by simp[run,hs,hr],hq⟩
theorem AeK:AO L [] k st Q↔AK L k st Q:=by
 constructor
 ·rintro⟨n,c,BA,o6,hs,hr,hq⟩
  simp only[DT,xa]at hs;exact⟨n,c,o6,hs▸hr,hq⟩
 ·rintro⟨n,c,o6,hr,hq⟩
  exact⟨n,c,st,o6,rfl,hr,hq⟩
theorem AeN{o:AI}{l:List AI}{BA:St}(h:∀C,C5 C o st=some BA):AO L (o::l) k st Q↔AO L l k BA Q:=by
 constructor
 ·rintro⟨n,c,BN,o6,hs,hr,hq⟩
  simp only[DT,h]at hs;exact⟨n,c,BN,o6,hs,hr,hq⟩
 ·rintro⟨n,c,BN,o6,hs,hr,hq⟩
  exact⟨n,c,BN,o6,by simpa only[DT,h]using hs,hr,hq⟩
theorem AeL{d:Option Nat}{op:EF}{g:Option (Nat×Bool)}{b9:u_}{l:List AI}(h:GL st g=some false):AO L (⟨d,op,g,b9⟩::l) k st Q↔AO L l k (st.dst d (.j5 [])) Q :=
 AeN λC=>by simp[C5,h]
theorem XZ(c:Nat):(CZ L c).num=L.num:=rfl
theorem AeM{d:Option Nat}{op:EF}{g:Option (Nat×Bool)}{b9:u_}{l:List AI}{E:B9}(h:GL st g=some true)(he:∀c,j4 (CZ L c) b9 st.ev st.own op=some E):AO L (⟨d,op,g,b9⟩::l) k st Q↔AO L l k (st.app d E) Q:=by
 have h:∀c,C5 (CZ L c) ⟨d,op,g,b9⟩ st=some (st.app d E):=λc=>by simp[C5,h,he]
 constructor
 ·rintro⟨n,c,BN,o6,hs,hr,hq⟩
  simp only[DT,h]at hs;exact⟨n,c,BN,o6,hs,hr,hq⟩
 ·rintro⟨n,c,BN,o6,hs,hr,hq⟩
  exact⟨n,c,BN,o6,by simpa only[DT,h]using hs,hr,hq⟩
theorem AeC{d:Option Nat}{f:Nat}{xs:List AL}{g:Option (Nat×Bool)}{b9:u_}{l:List AI}{vs:w_}{r:AV}(h:GL st g=some true)(hv:(xs.map st.ev).mapM (DD (st.own.u7 b9) true)=some vs)(hr:Ev L f vs r) :
  AO L (⟨d,.call f xs,g,b9⟩::l) k st Q↔AO L l k (st.dst d r) Q:=by
 have o7:∀c r',F9 L c f vs=some r'->C5 (CZ L c) ⟨d,.call f xs,g,b9⟩ st=some (st.dst d r'):=λc r' hc=>by
  have ae:(CZ L c).pure f vs=some r':=hc;simp[C5,h,j4,hv,ae,St.app]
 constructor
 ·rintro⟨n,c,BN,o6,hs,gp,hq⟩
  simp only[DT]at hs;cases hI:C5 (CZ L c) ⟨d,.call f xs,g,b9⟩ st with
  |none=>simp[hI]at hs
  |some BA=>
   simp only[hI]at hs;cases hp:F9 L c f vs with
   |none=>
    have ae:(CZ L c).pure f vs=none:=hp;simp[C5,h,j4,hv,ae]at hI
   |some r'=>
    obtain rfl:r'=r:=Ev.Ah ⟨c,hp⟩ hr;rw[o7 c r' hp]at hI;obtain rfl:=ta hI;exact⟨n,c,BN,o6,hs,gp,hq⟩
 ·rintro⟨n,c,BN,o6,hs,gp,hq⟩
  obtain⟨c',ae⟩:=hr;have l1:=GK (L:=L) (Pa c c');have l2:=GK (L:=L) (ea c c');refine⟨n,max c c',BN,o6,?_,OC l1 (ma n) gp,hq⟩;simp only[DT];rw[o7 (max c c') r (l2.1 f vs r ae)];exact OD l1 hs
theorem AeF{d:Option Nat}{f:Nat}{x:AL}{xs:List AL}{g:Option (Nat×Bool)}{b9:u_}{l:List AI}{vs:w_}{r:AV}(h:GL st g=some true)(hx:st.ev x = .fn true f (L.num f) [])(hv:(xs.map st.ev).mapM (DD st.own true)=some vs)(hr:Ev L f vs r) :
  AO L (⟨d,.v8 x xs,g,b9⟩::l) k st Q↔AO L l k (st.dst d r) Q:=by
 have o7:∀c r',F9 L c f vs=some r'->C5 (CZ L c) ⟨d,.v8 x xs,g,b9⟩ st=some (st.dst d r'):=λc r' hc=>by
  have ae:(CZ L c).pure f vs=some r':=hc;simp[C5,h,j4,hx,XZ,hv,ae,St.app]
 constructor
 ·rintro⟨n,c,BN,o6,hs,gp,hq⟩
  simp only[DT]at hs;cases hI:C5 (CZ L c) ⟨d,.v8 x xs,g,b9⟩ st with
  |none=>simp[hI]at hs
  |some BA=>
   simp only[hI]at hs;cases hp:F9 L c f vs with
   |none=>
    have ae:(CZ L c).pure f vs=none:=hp;simp[C5,h,j4,hx,XZ,hv,ae]at hI
   |some r'=>
    obtain rfl:r'=r:=Ev.Ah ⟨c,hp⟩ hr;rw[o7 c r' hp]at hI;obtain rfl:=ta hI;exact⟨n,c,BN,o6,hs,gp,hq⟩
 ·rintro⟨n,c,BN,o6,hs,gp,hq⟩
  obtain⟨c',ae⟩:=hr;have l1:=GK (L:=L) (Pa c c');have l2:=GK (L:=L) (ea c c');refine⟨n,max c c',BN,o6,?_,OC l1 (ma n) gp,hq⟩;simp only[DT];rw[o7 (max c c') r (l2.1 f vs r ae)];exact OD l1 hs
theorem AeD{d:Option Nat}{f:Nat}{w:AV}{cs:w_}{x:AL}{xs:List AL}{g:Option (Nat×Bool)}{b9:u_}{l:List AI}{vs:w_}{r:AV}(h:GL st g=some true)(hx:st.ev x = .fn true f (L.num f) (w::cs))(hv:(AV.agg (w::cs)::xs.map st.ev).mapM (DD st.own true)=some vs)(hr:Ev L f vs r) :
  AO L (⟨d,.v8 x xs,g,b9⟩::l) k st Q↔AO L l k (st.dst d r) Q:=by
 have o7:∀c r',F9 L c f vs=some r'->C5 (CZ L c) ⟨d,.v8 x xs,g,b9⟩ st=some (st.dst d r'):=λc r' hc=>by
  have ae:(CZ L c).pure f vs=some r':=hc;simp[C5,h,j4,hx,XZ,hv,ae,St.app]
 constructor
 ·rintro⟨n,c,BN,o6,hs,gp,hq⟩
  simp only[DT]at hs;cases hI:C5 (CZ L c) ⟨d,.v8 x xs,g,b9⟩ st with
  |none=>simp[hI]at hs
  |some BA=>
   simp only[hI]at hs;cases hp:F9 L c f vs with
   |none=>
    have ae:(CZ L c).pure f vs=none:=hp;simp[C5,h,j4,hx,XZ,hv,ae]at hI
   |some r'=>
    obtain rfl:r'=r:=Ev.Ah ⟨c,hp⟩ hr;rw[o7 c r' hp]at hI;obtain rfl:=ta hI;exact⟨n,c,BN,o6,hs,gp,hq⟩
 ·rintro⟨n,c,BN,o6,hs,gp,hq⟩
  obtain⟨c',ae⟩:=hr;have l1:=GK (L:=L) (Pa c c');have l2:=GK (L:=L) (ea c c');refine⟨n,max c c',BN,o6,?_,OC l1 (ma n) gp,hq⟩;simp only[DT];rw[o7 (max c c') r (l2.1 f vs r ae)];exact OD l1 hs
theorem AeG{d:Option Nat}{f:Nat}{xs:List AL}{g:Option (Nat×Bool)}{b9:u_}{l:List AI}{r:AV}(h:GL st g=some true)(hq:(xs.map st.ev).all dq=true)(hr:Ev L f ((xs.map st.ev).map yg) r)(jc:KS r\/U9 r) :
  AO L (⟨d,.o8 f xs,g,b9⟩::l) k st Q↔AO L l k (st.dst d (N3 r)) Q:=by
 have o7:∀c,F9 L c f ((xs.map st.ev).map yg)=some r->C5 (CZ L c) ⟨d,.o8 f xs,g,b9⟩ st=some (st.dst d (N3 r)):=λc hc=>by
  have ae:(CZ L c).pure f ((xs.map st.ev).map yg)=some r:=hc;simp only[C5,h,j4];rw[if_pos hq,ae];simp only[if_pos jc,sa,St.app]
 constructor
 ·rintro⟨n,c,BN,o6,hs,gp,Et⟩
  simp only[DT]at hs;cases hp:F9 L c f ((xs.map st.ev).map yg)with
  |none=>
   have ae:(CZ L c).pure f ((xs.map st.ev).map yg)=none:=hp;simp only[C5,h,j4]at hs;rw[if_pos hq,ae]at hs;simp at hs
  |some r'=>
   obtain rfl:r'=r:=Ev.Ah ⟨c,hp⟩ hr;rw[o7 c hp]at hs;exact⟨n,c,BN,o6,hs,gp,Et⟩
 ·rintro⟨n,c,BN,o6,hs,gp,Et⟩
  obtain⟨c',ae⟩:=hr;have l1:=GK (L:=L) (Pa c c');have l2:=GK (L:=L) (ea c c');refine⟨n,max c c',BN,o6,?_,OC l1 (ma n) gp,Et⟩;simp only[DT];rw[o7 (max c c') (l2.1 f _ r ae)];exact OD l1 hs
theorem AeH{d:Option Nat}{s f:Nat}{xs:List AL}{g:Option (Nat×Bool)}{b9:u_}{l:List AI}{vs:w_}{z:Nat}{es:v_}(h:GL st g=some true)(hv:(xs.map st.ev).mapM (QI (st.own.u7 b9) true)=some vs)(hr:NS L f vs z es)
  (ha:AO L l k (st.app d (.new s ⟨z,es⟩ (λt=>.row s t z 0 es.length))) Q):AO L (⟨d,.y5 s f xs,g,b9⟩::l) k st Q:=by
 obtain⟨n,c,BN,o6,hs,gp,hq⟩:=ha;obtain⟨c',ae⟩:=hr;have l1:=GK (L:=L) (Pa c c');have l2:=GK (L:=L) (ea c c');have tu:OL ((CZ L (max c c')).gi f vs Own.emp)=some (z,es):=uP (l2.2.1 f vs Own.emp) ae;refine⟨n,max c c',BN,o6,?_,OC l1 (ma n) gp,hq⟩;simp only[DT];have:C5 (CZ L (max c c')) ⟨d,.y5 s f xs,g,b9⟩ st=some (st.app d (.new s ⟨z,es⟩ (λt=>.row s t z 0 es.length))):=by
  simp only[C5,h,j4,hv,tu,sa]
 rw[this];exact OD l1 hs
def tQ(L:Lib)(s f:Nat)(vs:w_)(q:B5)(r:AV)(q':B5):Prop := ∃n,∀o:Own,o s=q->D4 L n f vs o=some (r,o.put s q')
theorem AeJ{d:Option Nat}{s f:Nat}{xs:List AL}{g:Option (Nat×Bool)}{b9:u_}{l:List AI}{r:AV}{q':B5}(h:GL st g=some true)(hr:tQ L s f (xs.map st.ev) (st.own s) r q')
  (ha:AO L l k (st.app d (.tn s q' r)) Q):AO L (⟨d,.dh s f xs,g,b9⟩::l) k st Q:=by
 obtain⟨n,c,BN,o6,hs,gp,hq⟩:=ha;obtain⟨c',ae⟩:=hr;have l1:=GK (L:=L) (Pa c c');have l2:=GK (L:=L) (ea c c');have tu:eA (CZ L (max c c')) f (xs.map st.ev) s (st.own s)=some (r,q'):=eB.2 λo ho=>l2.2.1 f _ o _ (ae o ho)
 refine⟨n,max c c',BN,o6,?_,OC l1 (ma n) gp,hq⟩;simp only[DT];have:C5 (CZ L (max c c')) ⟨d,.dh s f xs,g,b9⟩ st=some (st.app d (.tn s q' r)):=by
  simp only[C5,h,j4,tu,sa]
 rw[this];exact OD l1 hs
theorem AeB{d:Option Nat}{f s:Nat}{xs:List AL}{g:Option (Nat×Bool)}{l:List AI}{r:AV}{o':Own}(h:GL st g=some true)(h0:o' s=⟨0,λ_=>none⟩)(hr:∃n,∀o:Own,(∀q,q≠s->o q=st.own q)->D4 L n f (xs.map st.ev) o=some (r,o'.put s (o s)))
  (ha:AO L l k { (st.dst d r)with own:=o'.put s (st.own s) } Q):AO L (⟨d,.j6 f xs,g,[s]⟩::l) k st Q:=by
 obtain⟨n,c,BN,o6,hs,gp,hq⟩:=ha;obtain⟨c',ae⟩:=hr;have l1:=GK (L:=L) (Pa c c');have l2:=GK (L:=L) (ea c c');have tu:OM (CZ L (max c c')) f (xs.map st.ev) s st.own=some (r,o'):=dY h0 λo ho=>l2.2.1 f _ o _ (ae o ho)
 refine⟨n,max c c',BN,o6,?_,OC l1 (ma n) gp,hq⟩;simp only[DT];have:C5 (CZ L (max c c')) ⟨d,.j6 f xs,g,[s]⟩ st=some { (st.dst d r)with own:=o'.put s (st.own s) }:=by
  simp only[C5,h,j4,tu,sa,St.app]
 rw[this];exact OD l1 hs
theorem AeE{d:Option Nat}{f:Nat}{xs:List AL}{g:Option (Nat×Bool)}{b9:u_}{l:List AI}{r:AV}{o':Own}(hb:∀s,b9≠[s])(h:GL st g=some true)(hr:IB L f (xs.map st.ev) st.own r o') :
  AO L (⟨d,.j6 f xs,g,b9⟩::l) k st Q↔AO L l k { (st.dst d r)with own:=o' } Q:=by
 have o7:∀c r' o1,D4 L c f (xs.map st.ev) st.own=some (r',o1)->C5 (CZ L c) ⟨d,.j6 f xs,g,b9⟩ st=some { (st.dst d r')with own:=o1 }:=λc r' o1 hc=>by
  have ae:(CZ L c).gi f (xs.map st.ev) st.own=some (r',o1):=hc;have he:j4 (CZ L c) b9 st.ev st.own (.j6 f xs)=some (.cn r' o1):=by
   match b9,hb with
   |[],_=>simp only[j4];rw[ae];rfl
   |[s],hb=>exact absurd rfl (hb s)
   |s::s'::q,_=>simp only[j4];rw[ae];rfl
  simp[C5,h,he,St.app]
 constructor
 ·rintro⟨n,c,BN,o6,hs,gp,hq⟩
  simp only[DT]at hs;cases hI:C5 (CZ L c) ⟨d,.j6 f xs,g,b9⟩ st with
  |none=>simp[hI]at hs
  |some BA=>
   simp only[hI]at hs;cases hp:D4 L c f (xs.map st.ev) st.own with
   |none=>
    have ae:(CZ L c).gi f (xs.map st.ev) st.own=none:=hp;have he:j4 (CZ L c) b9 st.ev st.own (.j6 f xs)=none:=by
     match b9,hb with
     |[],_=>simp only[j4];rw[ae];rfl
     |[s],hb=>exact absurd rfl (hb s)
     |s::s'::q,_=>simp only[j4];rw[ae];rfl
    simp[C5,h,he]at hI
   |some x=>
    obtain⟨r',o1⟩:=x;obtain⟨rfl,rfl⟩:=IB.Ah ⟨c,hp⟩ hr;rw[o7 c r' o1 hp]at hI;obtain rfl:=ta hI;exact⟨n,c,BN,o6,hs,gp,hq⟩
 ·rintro⟨n,c,BN,o6,hs,gp,hq⟩
  obtain⟨c',ae⟩:=hr;have l1:=GK (L:=L) (Pa c c');have l2:=GK (L:=L) (ea c c');refine⟨n,max c c',BN,o6,?_,OC l1 (ma n) gp,hq⟩;simp only[DT];rw[o7 (max c c') r o' (l2.2.1 f _ _ _ ae)];exact OD l1 hs
theorem AeI{d:Option Nat}{f:Nat}{cs:w_}{x:AL}{xs:List AL}{g:Option (Nat×Bool)}{b9:u_}{l:List AI}{r:AV}{o':Own}(h:GL st g=some true)(hx:st.ev x = .fn false f (L.num f) cs)(hr:IB L f (xs.map st.ev++cs) st.own r o') :
  AO L (⟨d,.v8 x xs,g,b9⟩::l) k st Q↔AO L l k { (st.dst d r)with own:=o' } Q:=by
 have o7:∀c r' o1,D4 L c f (xs.map st.ev++cs) st.own=some (r',o1)->C5 (CZ L c) ⟨d,.v8 x xs,g,b9⟩ st=some { (st.dst d r')with own:=o1 }:=λc r' o1 hc=>by
  have ae:(CZ L c).gi f (xs.map st.ev++cs) st.own=some (r',o1):=hc;simp[C5,h,j4,hx,XZ,ae,St.app]
 constructor
 ·rintro⟨n,c,BN,o6,hs,gp,hq⟩
  simp only[DT]at hs;cases hI:C5 (CZ L c) ⟨d,.v8 x xs,g,b9⟩ st with
  |none=>simp[hI]at hs
  |some BA=>
   simp only[hI]at hs;cases hp:D4 L c f (xs.map st.ev++cs) st.own with
   |none=>
    have ae:(CZ L c).gi f (xs.map st.ev++cs) st.own=none:=hp;simp[C5,h,j4,hx,XZ,ae]at hI
   |some x=>
    obtain⟨r',o1⟩:=x;obtain⟨rfl,rfl⟩:=IB.Ah ⟨c,hp⟩ hr;rw[o7 c r' o1 hp]at hI;obtain rfl:=ta hI;exact⟨n,c,BN,o6,hs,gp,hq⟩
 ·rintro⟨n,c,BN,o6,hs,gp,hq⟩
  obtain⟨c',ae⟩:=hr;have l1:=GK (L:=L) (Pa c c');have l2:=GK (L:=L) (ea c c');refine⟨n,max c c',BN,o6,?_,OC l1 (ma n) gp,hq⟩;simp only[DT];rw[o7 (max c c') r o' (l2.2.1 f _ _ _ ae)];exact OD l1 hs
theorem Aeu{Q':St->Prop}(h:AK L k st Q)(hq:∀s,Q s->Q' s):AK L k st Q':=by
 obtain⟨n,c,o6,hr,hh⟩:=h;exact⟨n,c,o6,hr,hq _ hh⟩
theorem IB.intro{f:Nat}{fn:AFn}{vs:w_}{o:Own}{r:AV}{o':Own}(hL:L f=some fn)(hp:vs.length=fn.cr)(h:AK L [.code fn.body] ⟨CU 0 vs,o⟩ (λst=>(fn.res.mapM (GE st)).map J2=some r/\st.own=o')):IB L f vs o r o':=by
 obtain⟨n,c,o6,hr,h1,h2⟩:=h;refine⟨max n c+1,?_⟩;rw[YA];simp only[hL,hp,if_true];rw[OC (GK (L:=L) (ea n c)) (Pa n c) hr];cases hm:fn.res.mapM (GE o6)with
 |none=>rw[hm]at h1;cases h1
 |some rs=>
  rw[hm]at h1;simp only[sa,xa]at h1;simp[hm,h1,h2]
theorem G8.intro{f:Nat}{fn:AFn}{vs:w_}{r:AV}(hL:L f=some fn)(hp:vs.length=fn.cr)(h:AK L [.code fn.body] ⟨CU 0 vs,Own.emp⟩ (λst=>((fn.res.mapM (GE st)).map J2).bind (UY st.own false)=some r/\AY r)):G8 L f vs r:=by
 obtain⟨n,c,o6,hr,h1,h2⟩:=h;cases hm:(fn.res.mapM (GE o6)).map J2 with
 |none=>rw[hm]at h1;cases h1
 |some r0=>
  rw[hm]at h1;simp only[nc]at h1;obtain⟨q,hq⟩:=IB.intro (o:=Own.emp) (r:=r0) (o':=o6.own) hL hp ⟨n,c,o6,hr,hm,rfl⟩;refine⟨q,?_⟩;unfold JW;simp[hq,h1,h2]
theorem G8.ev{f:Nat}{fn:AFn}{vs:w_}{r:AV}(hL:L f=some fn)(h:G8 L f vs r)(hs:fn.tk=false:=by rfl):Ev L f vs r:=by
 obtain⟨n,h⟩:=h;have hs:L.tk f=false:=by simp only[Lib.tk,hL,hs]
 exact⟨n,by unfold F9 OA N9;simp only[hL];rw[hs];exact h⟩
theorem G8.cons{f:Nat}{q:Bool}{e:w_}{es:v_}{vs:w_}{r:AV}(h:G8 L f (.sl q (e::es)::vs) r):Ev L f (.sl q (e::es)::vs) r:=by
 obtain⟨n,h⟩:=h;refine⟨n,?_⟩;obtain⟨fa,hL⟩:∃fa,L f=some fa:=by
  cases hL:L f with
  |some fa=>exact⟨fa,rfl⟩
  |none=>
   have e:D4 L n f (.sl q (e::es)::vs) Own.emp=none:=by
    cases n with
    |zero=>rfl
    |succ n=>rw[YA,hL]
   unfold JW at h;simp only[e]at h;cases h
 unfold F9 OA N9;simp only[hL];split
 ·rename_i heq;simp at heq
 ·exact h
theorem G8.nil{f:Nat}{fn:AFn}{q:Bool}{vs:w_}{r:AV}(hL:L f=some fn)(h1:G8 L f (.y8 (.bool true)::vs) r)(h2:G8 L f (.y8 (.bool false)::vs) r)(hs:fn.tk=true:=by rfl):Ev L f (.sl q []::vs) r:=by
 obtain⟨n,h1⟩:=h1;obtain⟨n',h2⟩:=h2;have hs:L.tk f=true:=by simp only[Lib.tk,hL,hs]
 have k1:=bU (λvs r h=>(GK (L:=L) (Pa n n')).2.1 f vs Own.emp r h) h1;have k2:=bU (λvs r h=>(GK (L:=L) (ea n n')).2.1 f vs Own.emp r h) h2;refine⟨max n n',?_⟩;unfold F9 OA N9;simp only[hL];rw[hs];simp only;have k1':JW (λvs=>D4 L (max n n') f vs Own.emp) (.y8 (.bool true)::vs)=some r:=k1;have k2':JW (λvs=>D4 L (max n n') f vs Own.emp) (.y8 (.bool false)::vs)=some r:=k2;rw[k1',k2'];simp
theorem Ev.intro{f:Nat}{fn:AFn}{vs:w_}{r:AV}(hL:L f=some fn)(hp:vs.length=fn.cr)(h:AK L [.code fn.body] ⟨CU 0 vs,Own.emp⟩ (λst=>((fn.res.mapM (GE st)).map J2).bind (UY st.own false)=some r/\AY r))(hs:fn.tk=false:=by rfl):Ev L f vs r :=
 (G8.intro hL hp h).ev hL hs
theorem Ev.told{f:Nat}{vs:w_}{r:AV}(hL:L f=none)(h:L.ext f vs=some r)(hc:AY r):Ev L f vs r:=by
 refine⟨0,?_⟩;unfold F9 OA;simp only[hL,h];exact if_pos hc
end
end Go.e9

namespace Go.e9
section
variable {L:Lib} {k:List It} {tm:Tm} {own:Own} {Q:St->Prop} {l:List AI} {b9:u_} {d:Nat}
theorem cP(i:Nat)(v:AV)(r:Tm)(j:Nat):j8 ((i,v)::r) j=if j=i then v else j8 r j:=rfl
theorem AnZ(j:Nat):j8 [] j = .any:=rfl
theorem AnW(i:Nat)(v:AV)(r:Tm)(l:u_):cb ((i,v)::r) l=if l.contains i then cb r l else(i,v)::cb r l:=rfl
theorem AnX(l:u_):cb [] l=[]:=rfl
theorem AkE(i:Nat)(v:AV)(r:w_):CU i (v::r)=(i,v)::CU (i+1) r:=rfl
end
end Go.e9

namespace Go.e9
section
variable {L:Lib} {k:List It} {tm:Tm} {own:Own} {st:St} {Q:St->Prop} {l:List AI} {b9:u_} {d:Nat} {dst:Option Nat}
def ZW(fn:AFn)(r:AV)(st:St):Prop:=((fn.res.mapM (GE st)).map J2).bind (UY st.own false)=some r/\AY r
theorem Ev.fwd{f:Nat}{fn:AFn}{vs:w_}{r:AV}(hL:L f=some fn)(hp:vs.length=fn.cr)(h:AK L [.code fn.body] ⟨CU 0 vs,Own.emp⟩ (ZW fn r))(hs:fn.tk=false:=by rfl):Ev L f vs r:=Ev.intro hL hp h hs
theorem G8.fwd{f:Nat}{fn:AFn}{vs:w_}{r:AV}(hL:L f=some fn)(hp:vs.length=fn.cr)(h:AK L [.code fn.body] ⟨CU 0 vs,Own.emp⟩ (ZW fn r)):G8 L f vs r:=G8.intro hL hp h
end
attribute [irreducible] ZW
end Go.e9

namespace Go.e9
def pw(n:Int):Int:=2^n.toNat
theorem G2(n:Int):1<=pw n:=by
 have:0<pw n:=Int.pow_pos Y'
 omega
theorem RI{n m:Int}(h:n<=m):pw n<=pw m:=by
 unfold pw;have h':n.toNat<=m.toNat:=O'
 have h2:=Nat.pow_le_pow_right (n:=2) Y' h';have h3:((2^n.toNat:Nat):Int)<=((2^m.toNat:Nat):Int):=by exact_mod_cast h2
 simpa using h3
theorem iX{n:Int}(h:n<=62):pw n<=4611686018427387904:=RI (m:=62) h
theorem iY{n:Int}(h:1<=n):pw n=2*pw (n-1):=by
 unfold pw;have e:n.toNat=(n-1).toNat+1:=O'
 rw[e,Int.pow_succ,Cc]
theorem Aeb{a:Int}(h:0<=a)(h':a<=9223372036854775807):IntKind.i64.wrap a=a:=IntWalk.i64_in _ ⟨O',h'⟩
theorem Ane{k2:IntKind}{n:Int}(h:0<=n/\n<=62):DM .shl .i64 1 k2 n=some (.int .i64 (pw n)):=by
 have h1:=iX h.2;have h2:=G2 n;have e:(1:Int)*2^(min n.toNat IntKind.i64.bits)=pw n:=by
  have:min n.toNat IntKind.i64.bits=n.toNat:=by simp only[IntKind.bits];omega
  rw[this,Int.one_mul];rfl
 simp only[DM];rw[if_neg O',e,Aeb O' O']
theorem Anf{k2:IntKind}{a n:Int}(h:0<=n/\n<=63):DM .shr .i64 a k2 n=some (.int .i64 (a/pw n)):=by
 have h2:=G2 n;have e:(2:Int)^(min n.toNat IntKind.i64.bits)=pw n:=by
  have:min n.toNat IntKind.i64.bits=n.toNat:=by simp only[IntKind.bits];omega
  rw[this];rfl
 simp only[DM];rw[if_neg O',e,Int.fdiv_eq_ediv_of_nonneg _ O']
theorem uR{a p n:Int}(hp:p=pw n)(h:0<=n/\n<=62):DM .and .i64 a .i64 (p-1)=some (.int .i64 (a%p)):=by
 have h1:=iX h.2;have h2:=G2 n;simp only[DM,if_true];have hn:n.toNat<=64:=O'
 have e0:pw n=((2^n.toNat:Nat):Int):=by simp[pw]
 have e1:(Lc IntKind.i64.bits (p-1)).toNat=2^n.toNat-1:=by
  have hq:(2:Nat)^n.toNat<=4611686018427387904:=by
   have:((2^n.toNat:Nat):Int)<=4611686018427387904:=by rw[<-e0];exact h1
   omega
  rw[tc];simp only[IntKind.bits];rw[hp,e0];have hz:1<=2^n.toNat:=Nat.one_le_two_pow;omega
 have e2:(Lc IntKind.i64.bits a).toNat=(a%18446744073709551616).toNat:=by
  rw[tc];rfl
 have e3:((a%18446744073709551616).toNat%2^n.toNat:Nat)=(a%pw n).toNat:=by
  have hd:(pw n) ∣ 18446744073709551616:=by
   refine⟨2^(64-n.toNat),?_⟩;unfold pw;rw[<-Int.pow_add,show n.toNat+(64-n.toNat)=64 by omega];rfl
  have h3:(a%18446744073709551616)%pw n=a%pw n:=Int.emod_emod_of_dvd a hd;have h4:(((a%18446744073709551616).toNat%2^n.toNat:Nat):Int)=(a%18446744073709551616)%pw n:=by
   rw[Int.natCast_emod,<-e0,mc O']
  have h5:0<=a%pw n:=Fb _ O';omega
 have h5:0<=a%pw n:=Fb _ O';have h6:a%pw n<pw n:=dc _ O';rw[BitVec.toNat_and,e1,Nat.and_two_pow_sub_one_eq_mod,e2,e3,hp,mc h5,Aeb h5 O']
theorem Af3{a:Int}:DM .and .i64 a .i64 1=some (.int .i64 (a%2)):=uR (p:=2) (n:=1) rfl ⟨Y',Y'⟩
theorem Zq{a m:Int}(hm:0<m):a.tmod m=if 0<=a\/a%m=0 then a%m else a%m-m:=by
 have h:=Int.tmod_eq_emod (a:=a) (b:=m);rw[h];have hd:m ∣ a↔a%m=0:=yc;by_cases h0:0<=a\/a%m=0
 ·rw[if_pos h0,if_pos (by rcases h0 with h0|h0;exact Or.inl h0;exact Or.inr (hd.2 h0))];omega
 ·rw[if_neg h0,if_neg (λh=>h0 (h.imp id hd.1))]
  have:(m.natAbs:Int)=m:=O'
  omega
theorem Zn{a m:Int}(hm:0<m):a.tdiv m=if 0<=a\/a%m=0 then a/m else a/m+1:=by
 have h:=Int.tdiv_eq_ediv (a:=a) (b:=m);rw[h];have hd:m ∣ a↔a%m=0:=yc;by_cases h0:0<=a\/a%m=0
 ·rw[if_pos h0,if_pos (by rcases h0 with h0|h0;exact Or.inl h0;exact Or.inr (hd.2 h0))];omega
 ·rw[if_neg h0,if_neg (λh=>h0 (h.imp id hd.1)),Int.sign_eq_one_of_pos hm]
theorem Aih{a m:Int}(hm:1<=m)(h:-9223372036854775808<=a/\a<=9223372036854775807):-9223372036854775808<=a/m/\a/m<=9223372036854775807:=by
 constructor
 ·rw[Mb O']
  have:=Hb (a := -9223372036854775808) (b:=m) (c:=1) O' hm
  omega
 ·have:a/m<9223372036854775808:=by
   rw[Lb O'];have:=Gb (c:=9223372036854775808) (a:=1) (b:=m) hm O'
   omega
  omega
theorem xR{a m:Int}(hm:2<=m)(h:-9223372036854775808<=a/\a<=9223372036854775807):-4611686018427387904<=a/m/\a/m<=4611686018427387904:=by
 constructor
 ·rw[Mb O']
  have:=Hb (a := -4611686018427387904) (b:=m) (c:=2) O' hm
  omega
 ·have:a/m<4611686018427387904+1:=by
   rw[Lb O'];have:=Gb (c:=4611686018427387905) (a:=2) (b:=m) hm O'
   omega
  omega
theorem Akq{v h:Int}(hh:1<=h):(v/h)%2=if h<=v%(2*h)then 1 else 0:=by
 have e:v/h=v%(2*h)/h+2*(v/(2*h)):=by
  conv=>lhs;rw[<-Int.emod_add_mul_ediv v (2*h)]
  rw[show 2*h*(v/(2*h))=h*(2*(v/(2*h)))by rw[Cc 2 h,Int.mul_assoc],Int.add_mul_ediv_left _ _ O']
 have h0:0<=v%(2*h):=Fb _ O';have h1:v%(2*h)<2*h:=dc _ O';rw[e];by_cases hc:h<=v%(2*h)
 ·have:v%(2*h)/h=1:=by
   have a1:1<=v%(2*h)/h:=by rw[Mb O'];omega
   have a2:v%(2*h)/h<2:=by rw[Lb O'];omega
   omega
  rw[if_pos hc,this];omega
 ·have:v%(2*h)/h=0:=Int.ediv_eq_zero_of_lt h0 O'
  rw[if_neg hc,this];omega
end Go.e9

namespace Go.e9
theorem ZE(ts:u_)(j:Nat):∀tm:Tm,j8 (cb tm ts) j=if ts.contains j then .any else j8 tm j
 |[]=>by simp[AnX,AnZ]
 |(i,u)::r=>by
  rw[AnW];by_cases h:ts.contains i=true
  ·rw[if_pos h,ZE ts j r,cP]
   by_cases h2:j=i
   ·subst h2;rw[if_pos h,if_pos h]
   ·rw[if_neg h2]
  ·rw[if_neg h,cP,cP,ZE ts j r]
   by_cases h2:j=i
   ·subst h2;rw[if_pos rfl,if_pos rfl,if_neg h]
   ·rw[if_neg h2,if_neg h2]
def LA(j:Nat):u_->Bool
 |[]=>false
 |i::r=>bif za j i then true else LA j r
abbrev AZ(n:Int):w_:=[.int .i64 n]
end Go.e9

namespace Go.e9
inductive BC where
 |bx (cs:w_)
 |rw(z:Nat) (es:v_)
 |bs (z:Nat) (es:v_)
 |mx (rows:List (p_))
 |hx (i:Nat) (v:AV) (rows:List (p_))
 |vw (w:u_) (rows:List (p_))
abbrev Mem:=List (Nat×Nat×BC)
def e8:Mem->Nat->Option (Nat×BC)
 |[],_=>none
 |(k,s,c)::r,j=>bif za j k then some (s,c)else e8 r j
def c8(M:Mem)(k t:Nat):Option BC:=match e8 M k with
 |none=>none
 |some (_,c)=>match t with
  |0=>some c
  |i+1=>match c with
   |.mx rows=>match rows[i]? with
    |some (some (z,es))=>some (.rw z es)
    |_=>none
   |.hx _ _ rows=>match rows[i]? with
    |some (some (z,es))=>some (.rw z es)
    |_=>none
   |.vw _ rows=>match rows[i]? with
    |some (some (z,es))=>some (.rw z es)
    |_=>none
   |_=>none
def w5(j:Nat):Mem->Mem
 |[]=>[]
 |(k,s,c)::r=>bif za j k then w5 j r else(k,s,c)::w5 j r
def tg:Tm->Nat->AV
 |[],_=>.any
 |(i,v)::r,j=>bif za j i then v else tg r j
def bit(m i:Nat):Bool:=za (yd (Kc m i) 1) 1
def mask:Nat->u_->Nat
 |m,[]=>m
 |m,t::ts=>mask (Ec m (Bb 1 t)) ts
def xp(m:Nat):Tm->Tm
 |[]=>[]
 |(i,v)::r=>bif bit m i then xp m r else(i,v)::xp (Ec m (Bb 1 i)) r
def fN(n:Nat)(K:Nat->Prop):Prop:=match n with
 |0=>K 0
 |k+1=>K (k+1)
def vh:AV->Bool
 |.int _ _=>true |.bool _=>true |.y8 _=>true |.sl _ _=>true |.nil=>true
 |_=>false
def E1:w_->Bool
 |[]=>true
 |v::r=>bif vh v then E1 r else false
def VX:v_->Bool
 |[]=>true
 |v::r=>bif E1 v then VX r else false
def L7(s:Nat):AV->Bool
 |.row k _ _ _ _=>za k s |.ptr k _ _ _=>za k s |.mp k _=>za k s
 |_=>false
def KI(s:Nat):w_->Bool
 |[]=>false
 |v::r=>bif L7 s v then true else KI s r
def UV(s:Nat):v_->Bool
 |[]=>false
 |v::r=>bif KI s v then true else UV s r
def RJ(s:Nat):AV->Bool
 |.agg cs=>KI s cs
 |.fn _ _ _ cs=>KI s cs
 |v=>L7 s v
def Y2(s:Nat):w_->Bool
 |[]=>false
 |v::r=>bif RJ s v then true else Y2 s r
def OB(s:Nat):AV->Bool
 |.j5 vs=>Y2 s vs
 |v=>RJ s v
def J4(s:Nat):Tm->Bool
 |[]=>false
 |(_,v)::r=>bif OB s v then true else J4 s r
def J3(s:Nat):BC->Bool
 |.bx cs=>KI s cs
 |.rw _ _=>false
 |.bs _ es=>UV s es
 |.mx _=>false
 |.hx _ _ _=>false
 |.vw _ _=>false
def IM(s:Nat):Mem->Bool
 |[]=>false
 |(k,_,c)::r=>bif za s k then true else bif J3 s c then true else IM s r
def NU(s:Nat):AV->Bool
 |.row k t _ _ _=>bif za k s then(match t with|0=>false|_+1=>true)else false
 |.ptr k t _ _=>bif za k s then(match t with|0=>false|_+1=>true)else false
 |.mp k t=>bif za k s then(match t with|0=>false|_+1=>true)else false
 |_=>false
def ON(s:Nat):w_->Bool
 |[]=>false
 |v::r=>bif NU s v then true else ON s r
def VP(s:Nat):AV->Bool
 |.agg cs=>ON s cs
 |.fn _ _ _ cs=>ON s cs
 |v=>NU s v
def XW(s:Nat):w_->Bool
 |[]=>false
 |v::r=>bif VP s v then true else XW s r
def R2(s:Nat):AV->Bool
 |.j5 vs=>XW s vs
 |v=>VP s v
def OO(s:Nat):Tm->Bool
 |[]=>false
 |(_,v)::r=>bif R2 s v then true else OO s r
def XY(s:Nat):v_->Bool
 |[]=>false
 |v::r=>bif ON s v then true else XY s r
def QV(s:Nat):BC->Bool
 |.bx cs=>ON s cs
 |.bs _ es=>XY s es
 |_=>false
def ML(s:Nat):Mem->Bool
 |[]=>false
 |(_,_,c)::r=>bif QV s c then true else ML s r
def used(k:Nat)(tm:Tm)(M:Mem):Bool:=bif IM k M then true else J4 k tm
def iU(tm:Tm)(M:Mem):u_->(Nat->Prop)->Prop
 |[],_=>False
 |k::r,K=>bif used k tm M then iU tm M r K else K k
def HV(s:Nat)(tm:Tm)(M:Mem)(K:Nat->Prop):Prop:=iU tm M [s,s+1000000,s+2000000,s+3000000] K
def fL:w_->(w_->Prop)->Prop
 |[],K=>K []
 |v::r,K=>fL r λr'=>K (v::r')
def fV(v:AV)(K:AV->Prop):Prop:=match v with
 |.int k n=>K (.int k n) |.bool b=>K (.bool b) |.sl l es=>K (.sl l es) |.row s t z o n=>K (.row s t z o n)
 |.nil=>K .nil |.ptr s t i j=>K (.ptr s t i j) |.mp s t=>K (.mp s t) |.z7 cs=>K (.z7 cs) |.agg cs=>fL cs λcs=>K (.agg cs)
 |.fn p f g cs=>fL cs λcs=>K (.fn p f g cs)
 |.j5 vs=>fL vs λvs=>K (.j5 vs) |.y8 c=>K (.y8 c) |.any=>False
def fC(v:AV)(K:w_->Prop):Prop:=match v with
 |.agg cs=>fL cs K
 |.fn _ _ _ _=>False
 |.j5 _=>False
 |.any=>False
 |v=>fV v λv=>K [v]
def fB(b:Bool)(K:Bool->Prop):Prop:=match b with
 |true=>K true
 |false=>K false
def fT:Tm->(Tm->Prop)->Prop
 |[],K=>K []
 |(i,v)::r,K=>fT r λr'=>K ((i,v)::r')
def fM:Mem->(Mem->Prop)->Prop
 |[],K=>K []
 |(k,s,c)::r,K=>fM r λr'=>K ((k,s,c)::r')
def fF(v:AV)(K:AV->Prop):Prop:=match v with
 |.int k n=>K (.int k n) |.bool b=>K (.bool b) |.sl l es=>K (.sl l es) |.row s t z o n=>K (.row s t z o n)
 |.nil=>K .nil |.ptr s t i j=>K (.ptr s t i j) |.mp s t=>K (.mp s t) |.y8 c=>K (.y8 c)|_=>False
def f2(v:AV)(K:AV->Prop):Prop:=match v with
 |.int k n=>K (.int k n) |.bool b=>K (.bool b) |.sl l es=>K (.sl l es) |.row s t z o n=>K (.row s t z o n)
 |.nil=>K .nil |.ptr s t i j=>K (.ptr s t i j) |.mp s t=>K (.mp s t) |.y8 c=>K (.y8 c) |.agg cs=>fL cs λcs=>K (.agg cs) |.fn p f g cs=>fL cs λcs=>K (.fn p f g cs)|_=>False
def ti(agg:Bool)(ds:w_)(K:AV->Prop):Prop:=match agg with
 |true=>K (.agg ds)
 |false=>match ds with
  |[c]=>fF c K
  |_=>False
def AF(p q A B:Prop):Prop:=(p->A)/\(q->B)
def AX(p A:Prop):Prop:=p/\A
def AC(op:BinOp)(k:IntKind)(a:Int)(k':IntKind)(b:Int)(K:AV->Prop):Prop := ∃v,DM op k a k' b=some v/\K v
def B4(op:UnOp)(k:IntKind)(n:Int)(K:AV->Prop):Prop := ∃v,U0 op (.int k n)=some v/\K v
structure A0(k:IntKind)(n:Int)(K:Int->Prop):Prop where h:K (k.wrap n)
def AU(es:v_)(a:Int)(z:Nat)(K:w_->Prop):Prop:=0<=a/\∃cs,es[a.toNat]?=some cs/\cs.length=z/\K cs
def A7(es:v_)(i j n:Nat)(K:w_->Prop):Prop := ∃cs ds,es[i]?=some cs/\part cs j n=some ds/\K ds
def A8(es:v_)(i j:Nat)(vs:w_)(K:v_->Prop):Prop := ∃cs,es[i]?=some cs/\j+vs.length<=cs.length/\K (es.set i (splice cs j vs))
def BV(a b:Int)(bytes:Nat)(zero:w_)(K:v_->Nat->Prop):Prop:=(0<=a/\a<=b/\b*bytes<=E7/\b<=9223372036854775807)/\K (Fa a.toNat zero) a.toNat
structure AM(es:v_)(K:Nat->Prop):Prop where h:K es.length
def BI(es:v_)(len:Nat)(ys:v_)(z bytes:Nat)(K:v_->Nat->Prop):Prop :=
 len<=es.length/\(∀e∈ys,e.length=z)/\(len+ys.length)*bytes<=E7/\len+ys.length<=9223372036854775807/\K (es.take len++ys) (len+ys.length)
def B0(ys:v_)(z bytes:Nat)(K:v_->Nat->Prop):Prop :=
 (∀e∈ys,e.length=z)/\ys.length*bytes<=E7/\ys.length<=9223372036854775807/\K ys ys.length
def DS(es:v_)(off len:Nat)(ys:v_)(z:Nat)(K:v_->Nat->Prop):Prop :=
 off+len<=es.length/\(∀e∈ys,e.length=z)/\K (es.take off++ys.take len++es.drop (off+min ys.length len)) (min ys.length len)
def BG(es:v_)(off len:Nat)(K:v_->Prop):Prop:=off+len<=es.length/\K ((es.drop off).take len)
def HJ:w_->Bool
 |[]=>true
 |v::r=>match v with
  |.int _ _=>HJ r |.bool _=>HJ r |.y8 _=>HJ r |.sl _ _=>HJ r
  |_=>false
def nl:AV->AV
 |.nil=>.sl false []
 |v=>v
def N7:w_->Bool
 |[]=>true
 |v::r=>match v with
  |.int _ _=>N7 r |.bool _=>N7 r |.y8 _=>N7 r |.sl _ _=>N7 r |.nil=>N7 r
  |_=>false
def A1(es:v_)(off len:Nat)(K:v_->Prop):Prop:=off+len<=es.length/\(∀e∈es,N7 e=true)/\K (((es.drop off).take len).map λe=>e.map nl)
def CG(rows:List (p_))(i:Nat)(K:p_->Prop):Prop := ∃r,rows[i]?=some r/\K r
def B3(rows:List (p_))(i:Nat)(K:Nat->v_->Prop):Prop := ∃z es,rows[i]?=some (some (z,es))/\K z es
def CR(rows:List (p_))(i z:Nat)(es:v_)(K:List (p_)->Prop):Prop:=i<rows.length/\K (rows.set i (some (z,es)))
def DK(rows:List (p_))(i z:Nat)(es es':v_)(K:List (p_)->Prop):Prop:=es'.length=es.length/\K (rows.set i (some (z,es')))
def C2(a b:Int)(bytes:Nat)(K:List (p_)->Nat->Prop):Prop:=(0<=a/\a<=b/\b*bytes<=E7/\b<=9223372036854775807)/\K (Fa a.toNat none) a.toNat
def CO(rows:List (p_))(len:Nat)(r:p_)(bytes:Nat)(K:List (p_)->Nat->Prop):Prop :=
 len=rows.length/\(len+1)*bytes<=E7/\len+1<=9223372036854775807/\K (rows++[r]) (len+1)
def MA(q:Bool):List (p_)->v_
 |[]=>[]
 |none::r=>[.sl false []]::MA q r
 |some (_,es)::r=>[.sl q es]::MA q r
def CJ(q:Bool)(rows:List (p_))(off len:Nat)(K:v_->Prop):Prop :=
 off=0/\len=rows.length/\(∀z es,some (z,es)∈rows->∀e∈es,HJ e=true)/\K (MA q rows)
def BU(lo hi:Option Int)(len:Nat)(K:Nat->Nat->Prop):Prop :=
 ∃a h:Nat,(match lo with|none=>a=0|some x=>0<=x/\a=x.toNat)/\(match hi with|none=>h=len|some x=>0<=x/\x<=len/\h=x.toNat)/\a<=h/\K a h
def CB(z:Nat)(es:v_)(lo hi:Option Int)(K:v_->Prop):Prop:=(∀e∈es,e.length=z)/\BU lo hi es.length λa h=>K ((es.take h).drop a)
def AB(L:Lib)(f:Nat)(vs:w_)(K:AV->Prop):Prop := ∃r,Ev L f vs r/\K r
def AeO(n:Nat)(cs ds:w_)(K:Bool->Prop):Prop := ∃a b,oL cs=some a/\oL ds=some b/\a.length=n/\b.length=n/\K (decide (a=b))
def gP:w_->Bool
 |[]=>true
 |.int _ _::r=>gP r
 |_=>false
def CY(L:Lib)(f:Nat)(vs:w_)(K:Nat->v_->Nat->Prop):Prop := ∃z es n,NS L f vs z es/\n=es.length/\K z es n
abbrev GJ:=Nat->Nat->Nat×Nat
def BA(σ:GJ):AV->AV
 |.row k t z o n=>.row (σ k t).1 (σ k t).2 z o n
 |.ptr k t i j=>.ptr (σ k t).1 (σ k t).2 i j
 |.mp k t=>.mp (σ k t).1 (σ k t).2
 |v=>v
def BN(σ:GJ):AV->AV
 |.agg cs=>.agg (cs.map (BA σ))
 |.fn p f g cs=>.fn p f g (cs.map (BA σ))
 |v=>BA σ v
def BD(σ:GJ):AV->AV
 |.j5 vs=>.j5 (vs.map (BN σ))
 |v=>BN σ v
def CP(σ:GJ)(k:Nat):Nat->List (p_)->v_
 |_,[]=>[]
 |i,none::r=>[.nil]::CP σ k (i+1) r
 |i,some (z,es)::r=>[.row (σ k (i+1)).1 (σ k (i+1)).2 z 0 es.length]::CP σ k (i+1) r
def BC.c9(σ:GJ)(k:Nat):BC->DI
 |.bx cs=>⟨cs.length,[cs.map (BA σ)]⟩
 |.rw z es=>⟨z,es⟩
 |.bs z es=>⟨z,es.map λcs=>cs.map (BA σ)⟩
 |.mx rows=>⟨1,CP σ k 0 rows⟩
 |.hx i v rows=>⟨1,(CP σ k 0 rows).set i [v]⟩
 |.vw w rows=>⟨1,w.map λt=>((CP σ k 0 rows)[t]?).getD []⟩
def BC.isRow:BC->Bool
 |.bx _=>false
 |_=>true
def FG(s:Nat):Bool:=bif Nat.blt s 900000 then true else Pb 960000 s
structure IE(σ:GJ)(own:Own)(M:Mem):Prop where
 site:∀k s c,e8 M k=some (s,c)->(σ k 0).1=s
 c9:∀k t c,c8 M k t=some c->(own (σ k t).1).c9 (σ k t).2=some (c.c9 σ k)
 old:∀k t c,c8 M k t=some c->(σ k t).2<(own (σ k t).1).j7
 inj:∀k t k' t' c c',c8 M k t=some c->c8 M k' t'=some c'->σ k t=σ k' t'->k=k'/\t=t'
 low:∀k t c,c8 M k t=some c->c.isRow=true->FG (σ k t).1=true
structure RX(σ:GJ)(tm:Tm)(M:Mem)(st:St):Prop where
 tm:∀j,tg tm j = .any\/j8 st.tm j=BD σ (tg tm j)
 sat:IE σ st.own M
def SQ(Q:Tm->Mem->Prop)(st:St):Prop := ∃σ tm M,RX σ tm M st/\Q tm M
def AA(L:Lib)(k:List It)(tm:Tm)(M:Mem)(Q:Tm->Mem->Prop):Prop := ∀σ st,RX σ tm M st->AK L k st (SQ Q)
def tJ(L:Lib)(l:List AI)(k:List It)(tm:Tm)(M:Mem)(Q:Tm->Mem->Prop):Prop := ∀σ st,RX σ tm M st->AO L l k st (SQ Q)
def A2(L:Lib)(f:Nat)(vs:w_)(tm:Tm)(M:Mem)(K:AV->Mem->Prop):Prop :=
 ∀σ own,IE σ own M->∃r q8 σ' M',IB L f (vs.map (BD σ)) own (BD σ' r) q8/\IE σ' q8 M'/\(∀j,BD σ' (tg tm j)=BD σ (tg tm j))/\K r M'
def YV(s:Nat):Mem->Bool
 |[]=>true
 |(_,s',_)::r=>bif za s' s then false else YV s r
def FrS(L:Lib)(s f:Nat):Prop :=
 ∀n vs (o0 o2:Own) r o',(∀t,o0.get s t=none)->(∀q,q≠s->o2 q=o0 q)->D4 L n f vs o0=some (r,o')->D4 L n f vs o2=some (r,o'.put s (o2 s))
def AeT(L:Lib)(s f:Nat)(vs:w_)(tm:Tm)(M:Mem)(K:AV->Mem->Prop):Prop :=
 FrS L s f/\(FG s=false/\YV s M=true)/\A2 L f vs tm M λr M'=>YV s M'=true/\K r M'
def AeU(L:Lib)(s f key:Nat)(rest:w_)(M:Mem)(K:AV->Mem->Prop):Prop :=
 ∃(cells ja:w_) (kd:IntKind) (n:Int),e8 M key=some (s,.bx cells)/\E1 cells=true/\E1 ja=true/\(∀(t:Nat)(q:B5),q.c9 t=some ⟨cells.length,[cells]⟩->tQ L s f (.ptr s t 0 0::rest) q (.int kd n) (q.u5 t (some ⟨ja.length,[ja]⟩)))/\K (.int kd n) ((key,s,.bx ja)::M)
def cv:AV->AV
 |.agg cs=>bif E1 cs then .agg cs else .any
 |.j5 []=>.j5 []
 |.z7 _=>.any
 |.fn p f g []=>.fn p f g []
 |v=>bif vh v then v else .any
def ex(tm:Tm):AL->AV
 |.t n=>tg tm n
 |.c v=>cv v
def kq(k k':IntKind):Bool:=decide (k=k')
def lC(op:BinOp)(k:IntKind)(a:Int)(k':IntKind)(b:Int)(K:AV->Prop):Prop:=match op with
 |.lss=>bif kq k k' then AF (a<b) (b<=a) (K (.bool true)) (K (.bool false))else False
 |.leq=>bif kq k k' then AF (a<=b) (b<a) (K (.bool true)) (K (.bool false))else False
 |.gtr=>bif kq k k' then AF (b<a) (a<=b) (K (.bool true)) (K (.bool false))else False
 |.geq=>bif kq k k' then AF (b<=a) (a<b) (K (.bool true)) (K (.bool false))else False
 |.eql=>bif kq k k' then AF (a=b) (a≠b) (K (.bool true)) (K (.bool false))else False
 |.neq=>bif kq k k' then AF (a≠b) (a=b) (K (.bool true)) (K (.bool false))else False
 |op=>AC op k a k' b K
noncomputable def WG(mx:Bool)(k:IntKind)(K:AV->Prop)(a:Int)(l:w_):Prop :=
 List.rec (motive:=λ_=>Int->Prop) (λa=>K (.int k a)) (λv _ ih a=>match v with
  |.int _ b=>bif mx then AF (a<b) (b<=a) (ih b) (ih a)else AF (b<a) (a<=b) (ih b) (ih a)
  |_=>False) l a
def zz:w_->Nat->AV
 |[],_=>.any
 |v::_,0=>v
 |_::r,n+1=>zz r n
def O6(s:Nat):u_->Bool
 |[]=>true
 |b9=>!(LA s b9)
def WK:u_->Bool
 |[]=>true
 |s::r=>bif FG s then false else WK r
def rH(M:Mem)(k t:Nat)(K:Nat->v_->Prop):Prop:=match e8 M k with
 |some (_,c)=>match t with
  |0=>match c with
   |.rw z es=>K z es
   |_=>False
  |i+1=>match c with
   |.mx rows=>B3 rows i K
   |_=>False
 |none=>False
def aH(M:Mem)(v:AV)(K:v_->Prop):Prop:=match v with
 |.sl _ es=>K es
 |.nil=>K []
 |.y8 (.bool _)=>K []
 |.row key t z off len=>rH M key t λz' es=>bif za z z' then BG es off len K else False
 |_=>False
def W4(q:Bool)(M:Mem)(b9:u_)(v:AV)(K:AV->Prop):Prop:=match v with
 |.int k n=>K (.int k n)
 |.bool b=>K (.bool b)
 |.sl l es=>K (.sl l es)
 |.y8 c=>K (.y8 c)
 |.nil=>K (.sl false [])
 |.row key t z off len=>match e8 M key with
  |some (s,.rw z' es)=>match t with
   |0=>bif za z z' then bif O6 s b9 then A1 es off len λes=>K (.sl q es)else False else False
   |_+1=>False
  |some (_,.mx rows)=>match t with
   |0=>False
   |i+1=>match b9 with
    |[]=>B3 rows i λz' es=>bif za z z' then A1 es off len λes=>K (.sl q es)else False
    |b::r=>bif WK (b::r)then B3 rows i λz' es=>bif za z z' then A1 es off len λes=>K (.sl q es)else False else False
  |_=>False
 |_=>False
noncomputable def jP(q:Bool)(M:Mem)(b9:u_)(l:w_):(w_->Prop)->Prop :=
 List.rec (motive:=λ_=>(w_->Prop)->Prop) (λK=>K []) (λv _ ih K=>W4 q M b9 v λv'=>ih λr'=>K (v'::r')) l
noncomputable def rU(q:Bool)(M:Mem)(b9:u_)(l:v_):(v_->Prop)->Prop :=
 List.rec (motive:=λ_=>(v_->Prop)->Prop) (λK=>K []) (λv _ ih K=>jP q M b9 v λv'=>ih λr'=>K (v'::r')) l
noncomputable def cG(q:Bool)(M:Mem)(b9:u_)(v:AV)(K:AV->Prop):Prop:=match v with
 |.row key 0 z off len=>match e8 M key with
  |some (s,.bs z' es)=>bif za z z' then bif O6 s b9 then bif za off 0 then AX (len=es.length) (rU q M b9 es λes=>K (.sl q es))else False else False else False
  |some (_,.mx rows)=>match b9 with
   |[]=>bif za z 1 then CJ q rows off len λes=>K (.sl q es)else False
   |_::_=>False
  |_=>W4 q M b9 (.row key 0 z off len) K
 |v=>W4 q M b9 v K
noncomputable def rV(q:Bool)(M:Mem)(b9:u_)(l:w_):(w_->Prop)->Prop :=
 List.rec (motive:=λ_=>(w_->Prop)->Prop) (λK=>K []) (λv _ ih K=>cG q M b9 v λv'=>ih λr'=>K (v'::r')) l
noncomputable def RM(q:Bool)(M:Mem)(b9:u_)(v:AV)(K:AV->Prop):Prop:=match v with
 |.agg cs=>rV q M b9 cs λcs=>K (.agg cs)
 |v=>cG q M b9 v K
noncomputable def cH(tm:Tm)(M:Mem)(b9:u_)(l:List AL):(w_->Prop)->Prop :=
 List.rec (motive:=λ_=>(w_->Prop)->Prop) (λK=>K []) (λx _ ih K=>RM true M b9 (ex tm x) λv=>ih λvs=>K (v::vs)) l
noncomputable def jQ(M:Mem)(b9:u_)(v:AV)(K:AV->Prop):Prop:=match v with
 |.nil=>K .nil
 |v=>RM true M b9 v K
noncomputable def rW(tm:Tm)(M:Mem)(b9:u_)(l:List AL):(w_->Prop)->Prop :=
 List.rec (motive:=λ_=>(w_->Prop)->Prop) (λK=>K []) (λx _ ih K=>jQ M b9 (ex tm x) λv=>ih λvs=>K (v::vs)) l
noncomputable def WA(tm:Tm)(l:List AL):(w_->Prop)->Prop :=
 List.rec (motive:=λ_=>(w_->Prop)->Prop) (λK=>K []) (λx _ ih K=>fV (ex tm x) λv=>ih λvs=>K (v::vs)) l
def iN(tm:Tm)(o:Option AL)(K:Option Int->Prop):Prop:=match o with
 |none=>K none
 |some x=>match ex tm x with
  |.int _ n=>K (some n)
  |_=>False
def pB(es:v_)(K:Nat->Prop):Prop:=match es with
 |[]=>K 0
 |[_]=>K 1
 |[_,_]=>K 2
 |[_,_,_]=>K 3
 |[_,_,_,_]=>K 4
 |es=>K es.length
noncomputable def dX(tm:Tm)(z:Nat)(l:List AL):(v_->Prop)->Prop :=
 List.rec (motive:=λ_=>(v_->Prop)->Prop) (λK=>K []) (λx _ ih K=>fC (ex tm x) λcs=>bif za cs.length z then ih λes=>K (cs::es)else False) l
noncomputable def nN(tm:Tm)(ps:List (Nat×Nat×AL)):w_->(w_->Prop)->Prop :=
 List.rec (motive:=λ_=>w_->(w_->Prop)->Prop) (λcells K=>K cells) (λp _ ih cells K=>fC (ex tm p.2.2) λvs=>bif za vs.length p.2.1 then bif Pb (p.1+p.2.1) cells.length then fL (splice cells p.1 vs) λcells=>ih cells K else False else False) ps
def SA(tm:Tm):List AL->w_
 |[]=>[]
 |x::r=>ex tm x::SA tm r
def VK(tb:u_)(n:Int)(K:Nat->Prop):Prop:=0<=n/\∃v,tb[n.toNat]?=some v/\K v
noncomputable def pZ(tm:Tm)(l:List AL):(w_->Prop)->Prop :=
 List.rec (motive:=λ_=>(w_->Prop)->Prop) (λK=>K []) (λx _ ih K=>fF (ex tm x) λv=>ih λcs=>K (v::cs)) l
def qE:AV->Bool
 |.agg _=>false |.fn _ _ _ _=>false |.j5 _=>false |.any=>false
 |_=>true
def bN:w_->Bool
 |[]=>true
 |v::r=>bif qE v then bN r else false
def VM(M:Mem)(v:AV):Option (Nat×Option (Nat×Nat×Nat)):=match v with
 |.row ky 0 1 0 1=>match e8 M ky with
  |some (_,.bs 1 [[.row k2 0 z 0 n]])=>some (ky,some (k2,z,n))
  |some (_,.rw 1 [[.nil]])=>some (ky,none)
  |_=>none
 |_=>none
def sH(tm:Tm)(M:Mem)(K:AV->Mem->Prop)(n:Nat)(x v:AL):Prop:=match ex tm x with
 |.ptr key t i j=>fC (ex tm v) λvs=>bif za vs.length n then(match e8 M key with
  |some (s,c)=>match t with
   |0=>match c with
    |.bx cs=>bif za i 0 then bif Pb (j+vs.length) cs.length then fL (splice cs j vs) λgj=>K (.j5 []) ((key,s,.bx gj)::M)else False else False
    |.rw z es=>bif E1 vs then A8 es i j vs λes'=>K (.j5 []) ((key,s,.rw z es')::M)else False
    |.bs _ _=>False
    |.mx rows=>match vs with
     |[.row db 0 z 0 m]=>bif za key db then False else bif OO key tm then False else bif ML key M then False else bif za j 0 then(match e8 M db with
      |some (_,.rw z' es)=>bif za z z' then fM (w5 db M) λM'=>AX (m=es.length) (CR rows i z es λrows'=>K (.j5 []) ((key,s,.mx rows')::M'))else False
      |_=>False)else False
     |_=>False
    |.hx i0 _ rows=>match vs with
     |[.row db 0 z 0 m]=>bif za key db then False else bif OO key tm then False else bif ML key M then False else bif za j 0 then(match e8 M db with
      |some (_,.rw z' es)=>bif za z z' then fM (w5 db M) λM'=>AX (i=i0/\m=es.length) (CR rows i z es λrows'=>K (.j5 []) ((key,s,.mx rows')::M'))else False
      |_=>False)else False
     |_=>False
    |.vw _ _=>False
   |i'+1=>match c with
    |.mx rows=>bif E1 vs then B3 rows i' λz es=>A8 es i j vs λes'=>DK rows i' z es es' λrows'=>K (.j5 []) ((key,s,.mx rows')::M)else False
    |_=>False
  |none=>False)else False
 |_=>False
def BL(r:AV)(K:AV->Prop):Prop:=(KS r\/U9 r)/\K (N3 r)
def C3(es:v_)(b:ByteArray)(K:Int->Bool->Prop):Prop:=(b.size<=9223372036854775807/\es.length<=9223372036854775807)/\K ((HF es b).getD 0) (HF es b).isSome
def C4(es:v_)(b:ByteArray)(n:Int)(K:v_->Prop):Prop:=(b.size<=9223372036854775807/\es.length<9223372036854775807/\-9223372036854775808<=n/\n<=9223372036854775807)/\K (S4 es b n)
def CX(ys:v_)(z bytes:Nat)(K:v_->Prop):Prop:=(∀e∈ys,e.length=z/\∀c∈e,RF c=true)/\ys.length*bytes<=E7/\ys.length<=9223372036854775807/\K ys
def C7(L:Lib)(f:Nat)(es:v_)(len:Nat)(K:v_->Prop):Prop:=len=es.length/\len<4611686018427387904/\∃es',KW L.cmp f es es'/\K es'
noncomputable def XE(L:Lib)(tm:Tm)(M:Mem)(b9:u_)(K:AV->Mem->Prop):EF->Prop
 |.q9 x=>fV (ex tm x) λv=>K v M
 |.ak s z=>bif FG s then HV s tm M λk=>K (.row k 0 z 0 0) ((k,s,.rw z [])::M)else False
 |.pick c a b=>match ex tm c with
  |.bool true=>fV (ex tm a) λv=>K v M
  |.bool false=>fV (ex tm b) λv=>K v M
  |_=>False
 |.bin op x y=>match ex tm x,ex tm y with
  |.int k a,.int k' b=>lC op k a k' b λv=>K v M
  |_,_=>False
 |.beq ne x y=>match ex tm x,ex tm y with
  |.bool a,.bool b=>fB (bif ne then !(a == b)else a == b) λc=>K (.bool c) M
  |_,_=>False
 |.un op x=>match ex tm x with
  |.int k n=>B4 op k n λv=>K v M
  |.bool b=>match op with
   |.not=>fB (!b) λc=>K (.bool c) M
   |_=>False
  |_=>False
 |.conv k x=>match ex tm x with
  |.int _ n=>A0 k n λv=>K (.int k v) M
  |_=>False
 |.box s x=>fC (ex tm x) λcs=>HV s tm M λk=>K (.ptr k 0 0 0) ((k,s,.bx cs)::M)
 |.alloc s zero=>bif E1 zero then(HV s tm M λk=>K (.ptr k 0 0 0) ((k,s,.bx zero)::M))else False
 |.build zero parts=>bif E1 zero then nN tm parts zero λcs=>K (.agg cs) M else False
 |.b8 s z parts=>bif FG s then dX tm z parts λes=>pB es λn=>HV s tm M λk=>bif VX es then K (.row k 0 z 0 n) ((k,s,.rw z es)::M)else K (.row k 0 z 0 n) ((k,s,.bs z es)::M)else False
 |.lit z parts=>dX tm z parts λes=>bif VX es&&es.all (λe=>e.all YN)then K (.sl false es) M else False
 |.o4 x off=>match ex tm x with
  |.ptr key t i j=>K (.ptr key t i (j+off)) M
  |.z7 cs=>fL (cs.drop off) λcs=>K (.z7 cs) M
  |_=>False
 |.og x off n agg=>match ex tm x with
  |.agg cs=>match part cs off n with
   |some ds=>fL ds λds=>ti agg ds λv=>K v M
   |none=>False
  |_=>False
 |.u4 arr z x i=>match ex tm i with
  |.int _ n=>match arr,ex tm x with
   |some len,.ptr key t i' j=>AX (0<=n/\n<(len:Int)) (K (.ptr key t i' (j+n.toNat*z)) M)
   |some len,.z7 cs=>AX (0<=n/\n<(len:Int)) (fL (cs.drop (n.toNat*z)) λcs=>K (.z7 cs) M)
   |none,.row key t z' off len=>bif za z' z then AX (0<=n/\n<(len:Int)) (K (.ptr key t (off+n.toNat) 0) M)else False
   |none,.sl _ es=>AU es n z λcs=>K (.z7 cs) M
   |_,_=>False
  |_=>False
 |.ld agg n x=>match ex tm x with
  |.ptr key t i j=>match e8 M key with
   |some (s,c)=>match t with
    |0=>bif O6 s b9 then(match c with
     |.bx cs=>bif za i 0 then(match part cs j n with
      |some ds=>fL ds λds=>ti agg ds λv=>K v M
      |none=>False)else False
     |.rw _ es=>A7 es i j n λds=>fL ds λds=>bif E1 ds then ti agg ds λv=>K v M else False
     |.bs _ es=>(match es[i]? with
      |some cs=>(match part cs j n with
       |some ds=>fL ds λds=>ti agg ds λv=>K v M
       |none=>False)
      |none=>False)
     |.mx rows=>bif za j 0 then bif za n 1 then CG rows i λr=>match r with
      |some (z,es)=>ti agg [.row key (i+1) z 0 es.length] λv=>K v M
      |none=>ti agg [.nil] λv=>K v M else False else False
     |.hx _ _ _=>False
     |.vw _ _=>False)else False
    |i'+1=>match c,b9 with
     |.mx rows,[]=>B3 rows i' λ_ es=>A7 es i j n λds=>fL ds λds=>bif E1 ds then ti agg ds λv=>K v M else False
     |.mx rows,b::r=>bif WK (b::r)then B3 rows i' λ_ es=>A7 es i j n λds=>fL ds λds=>bif E1 ds then ti agg ds λv=>K v M else False else False
     |_,_=>False
   |none=>False
  |.z7 cs=>match part cs 0 n with
   |some ds=>fL ds λds=>bif E1 ds then ti agg ds λv=>K v M else False
   |none=>False
  |_=>False
 |.st n x v=>sH tm M K n x v
 |.qt s n x v=>match ex tm x with
  |.ptr key 0 _ _=>(match e8 M key with
   |some (s',_)=>bif za s' s then sH tm M K n x v else False
   |none=>False)
  |_=>False
 |.o8 f xs=>WA tm xs λvs=>bif vs.all dq then AB L f (vs.map yg) λr=>BL r λr=>K r M else False
 |.mk s z bytes zero l c=>match ex tm l,ex tm c with
  |.int _ a,.int _ b=>bif za zero.length z then bif E1 zero then match zero with
   |[.nil]=>bif FG s then C2 a b bytes λrows n=>HV s tm M λk=>K (.row k 0 z 0 n) ((k,s,.mx rows)::M)else False
   |zero=>bif FG s then(BV a b bytes zero λes n=>HV s tm M λk=>K (.row k 0 z 0 n) ((k,s,.rw z es)::M))else False else False else False
  |_,_=>False
 |.iz z x lo hi=>iN tm lo λlo=>iN tm hi λhi=>match ex tm x with
  |.sl l es=>CB z es lo hi λes=>K (.sl l es) M
  |.row key t z' off len=>bif za z' z then BU lo hi len λa h=>K (.row key t z (off+a) (h-a)) M else False
  |.nil=>(match lo,hi with
   |none,none=>K .nil M
   |some a,none=>AX (a=0) (K .nil M)
   |none,some h=>AX (h=0) (K .nil M)
   |some a,some h=>AX (a=0/\h=0) (K .nil M))
  |_=>False
 |.ext x i=>match ex tm x with
  |.j5 vs=>f2 (zz vs i) λv=>K v M
  |_=>False
 |.len x=>match ex tm x with
  |.sl _ es=>AM es λn=>K (.int .i64 (n:Int)) M
  |.nil=>K (.int .i64 0) M
  |.row _ _ _ _ n=>K (.int .i64 (n:Int)) M
  |_=>False
 |.mm mx xs=>match SA tm xs with
  |.int k a::r=>WG mx k (λv=>K v M) a r
  |_=>False
 |.app s z bytes x y=>bif Pb 800000 s then False else(
  match VM M (ex tm y)with
  |some (ky,some (k2,z2,n2))=>match ex tm x with
   |.row key 0 z' off len=>bif za off 0 then bif za z' 1 then bif za z 1 then bif za key k2 then False else bif za key ky then False else bif za k2 ky then False else(match e8 M k2 with
    |some (_,.rw z3 es)=>bif za z2 z3 then(match e8 M key with
     |some (s',.mx rows)=>fM (w5 key (w5 k2 (w5 ky M))) λM'=>AX (n2=es.length) (CO rows len (some (z2,es)) bytes λrows' n=>HV s tm M λk=>K (.row k 0 z 0 n) ((k,s',.mx rows')::M'))
     |_=>False)else False
    |_=>False)else False else False else False
   |.nil=>bif FG s then bif za z 1 then(match e8 M k2 with
    |some (_,.rw z3 es)=>bif za z2 z3 then fM (w5 k2 M) λM'=>AX (n2=es.length/\bytes<=140737488355328) (HV s tm M λk=>K (.row k 0 z 0 1) ((k,s,.mx [some (z2,es)])::M'))else False
    |_=>False)else False else False
   |_=>False
  |some (ky,none)=>match ex tm x with
   |.row key 0 z' off len=>bif za off 0 then bif za z' 1 then bif za z 1 then bif za key ky then False else(match e8 M key with
     |some (s',.mx rows)=>fM (w5 key M) λM'=>CO rows len none bytes λrows' n=>HV s tm M λk=>K (.row k 0 z 0 n) ((k,s',.mx rows')::M')
     |_=>False)else False else False else False
   |.nil=>bif FG s then bif za z 1 then AX (bytes<=140737488355328) (HV s tm M λk=>K (.row k 0 z 0 1) ((k,s,.mx [none])::M))else False else False
   |_=>False
  |none=>aH M (ex tm y) λys=>match ex tm x with
   |.row key 0 z' off len=>bif za off 0 then bif za z' z then(match e8 M key with
    |some (s',.rw dj es)=>bif za dj z then fM (w5 key M) λM'=>(BI es len ys z bytes λes' n=>HV s tm M λk=>K (.row k 0 z 0 n) ((k,s',.rw z es')::M'))else False
    |_=>False)else False else False
   |.row key (i+1) z' off len=>bif za off 0 then bif za z' z then(match e8 M key with
    |some (sk,.mx rows)=>fM (w5 key M) λM'=>B3 rows i λdj es=>bif za dj z then(BI es len ys z bytes λes' n=>∀s' v,HV s tm M λk=>K (.row k 0 z 0 n) ((k,s',.rw z es')::(key,sk,.hx i v (rows.set i none))::M'))else False
    |_=>False)else False else False
   |.nil=>bif FG s then B0 ys z bytes λes n=>HV s tm M λk=>K (.row k 0 z 0 n) ((k,s,.rw z es)::M)else False
   |_=>False)
 |.dw s z bytes x y=>match ex tm y with
  |.sl _ ys=>match ex tm x with
   |.row key 0 z' off len=>bif za off 0 then bif za z' z then(match e8 M key with
    |some (s',.rw dj es)=>bif za s' s then bif za dj z then fM (w5 key M) λM'=>(BI es len ys z bytes λes' n=>HV s tm M λk=>K (.row k 0 z 0 n) ((k,s',.rw z es')::M'))else False else False
    |_=>False)else False else False
   |.nil=>bif FG s then B0 ys z bytes λes n=>HV s tm M λk=>K (.row k 0 z 0 n) ((k,s,.rw z es)::M)else False
   |_=>False
  |_=>False
 |.call f xs=>cH tm M b9 xs λvs=>AB L f vs λr=>K r M
 |.j6 f xs=>match b9 with
  |[s]=>WA tm xs λvs=>AeT L s f vs tm M K
  |_=>WA tm xs λvs=>A2 L f vs tm M K
 |.y5 s f xs=>bif FG s then rW tm M b9 xs λvs=>CY L f vs λz es n=>HV s tm M λk=>K (.row k 0 z 0 n) ((k,s,.rw z es)::M)else False
 |.uh ne x=>match ex tm x with
  |.nil=>fB (xor true ne) λc=>K (.bool c) M
  |.y8 (.bool b)=>fB (xor b ne) λc=>K (.bool c) M
  |.sl _ es=>AX (es≠[]) (fB (xor false ne) λc=>K (.bool c) M)
  |.row _ _ _ _ n=>AX (0<n) (fB (xor false ne) λc=>K (.bool c) M)
  |_=>False
 |.bad=>False
 |.oa z bytes x y=>aH M (ex tm y) λys=>match ex tm x with
  |.row key 0 z' off len=>bif za off 0 then bif za len 0 then bif za z' z then(match e8 M key with
   |some (_,.rw dj _)=>bif za dj z then fM (w5 key M) λM'=>CX ys z bytes λys=>K (.sl false ys) M' else False
   |_=>False)else False else False else False
  |_=>False
 |.fm fs f z x c=>match ex tm c with
  |.fn true f' g []=>AX (f'=f/\g=L.num f/\L.fo fs=some z) (match ex tm x with
   |.nil=>K (.j5 []) M
   |.row key 0 z' off len=>bif za off 0 then bif za z' z then(match e8 M key with
    |some (s,.rw dj es)=>bif za dj z then C7 L f es len λes'=>K (.j5 []) ((key,s,.rw z es')::M)else False
    |_=>False)else False else False
   |_=>False)
  |_=>False
 |.qo s=>bif FG s then HV s tm M λk=>K (.mp k 0) ((k,s,.rw 2 [])::M)else False
 |.ru x kk=>match ex tm x,ex tm kk with
  |.mp key 0,.y8 (.string b)=>(match e8 M key with
   |some (s,.rw _ es)=>bif O6 s b9 then C3 es b λn ok=>K (.j5 [.int .i64 n,.bool ok]) M else False
   |_=>False)
  |_,_=>False
 |.qp x kk v=>match ex tm x,ex tm kk,ex tm v with
  |.mp key 0,.y8 (.string b),.int .i64 n=>(match e8 M key with
   |some (s,.rw z es)=>C4 es b n λes'=>K .any ((key,s,.rw z es')::M)
   |_=>False)
  |_,_,_=>False
 |.mg x=>match ex tm x with
  |.ptr key t i j=>K (.ptr key t i j) M
  |_=>False
 |.dh s f xs=>WA tm xs λvs=>match vs with
  |.ptr key 0 0 0::rest=>bif gP rest then AeU L s f key rest M K else False
  |_=>False
 |.jg tb x=>match ex tm x with
  |.int _ n=>VK tb n λv=>K (.int .u8 v) M
  |_=>False
 |.qm p f xs=>pZ tm xs λcs=>K (.fn (p&&cs.isEmpty) f (L.num f) cs) M
 |.v8 x xs=>match ex tm x with
  |.fn true f g []=>AX (g=L.num f) (cH tm M [] xs λvs=>AB L f vs λr=>K r M)
  |.fn true f g (c::cs)=>AX (g=L.num f) (RM true M [] (.agg (c::cs)) λv=>cH tm M [] xs λvs=>AB L f (v::vs) λr=>K r M)
  |.fn false f g cs=>bif bN cs then AX (g=L.num f) (WA tm xs λvs=>fL (vs++cs) λvs=>A2 L f vs tm M K)else False
  |_=>False
def Fi(key:Nat):Tm->Tm
 |[]=>[]
 |(j,v)::r=>bif R2 key v then(j,.any)::Fi key r else(j,v)::Fi key r
def xk(v:AV)(tm:Tm)(K:Tm->Prop):Prop:=match v with
 |.row key (_+1) _ _ _=>fT (Fi key tm) K
 |_=>K tm
noncomputable def XI(L:Lib)(o:AI)(ih:(Tm->Mem->Prop)->Tm->Mem->Prop)(K:Tm->Mem->Prop)(tm:Tm)(M:Mem):Prop:=match o with
 |⟨some d,.app s z b x y,none,b9⟩=>XE L tm M b9 (λv M=>xk (ex tm x) tm λtm=>ih K ((d,v)::tm) M) (.app s z b x y)
 |⟨some d,op,none,b9⟩=>XE L tm M b9 (λv M=>ih K ((d,v)::tm) M) op
 |⟨none,op,none,b9⟩=>XE L tm M b9 (λ_ M=>ih K tm M) op
 |⟨dst,op,some (g,w),b9⟩=>match tg tm g with
  |.bool b=>fB (b == w) λc=>match c,dst with
   |true,some d=>XE L tm M b9 (λv M=>ih K ((d,v)::tm) M) op
   |true,none=>XE L tm M b9 (λ_ M=>ih K tm M) op
   |false,some d=>ih K ((d,.j5 [])::tm) M
   |false,none=>ih K tm M
  |.j5 []=>match dst with
   |some d=>ih K ((d,.j5 [])::tm) M
   |none=>ih K tm M
  |_=>False
noncomputable def XO(L:Lib)(l:List AI):(Tm->Mem->Prop)->Tm->Mem->Prop :=
 List.rec (motive:=λ_=>(Tm->Mem->Prop)->Tm->Mem->Prop) (λK tm M=>K tm M) (λo _ ih K tm M=>XI L o ih K tm M) l
noncomputable def XS(L:Lib)(Q:Tm->Mem->Prop)(ih:List It->Tm->Mem->Prop)(k:List It)(tm:Tm)(M:Mem):Prop:=match k with
 |[]=>Q tm M
 |it::k=>match it with
  |.c9 _=>ih k tm M
  |.qa ts ss=>fN (mask 0 ts) λm=>fT (xp m tm) λtm=>match ss with
   |[]=>ih k tm M
   |_::_=>False
  |.lp c=>AA L (.lp c::k) tm M Q
  |.code c=>match c with
   |.skip=>ih k tm M
   |.ops l _=>XO L l (λtm M=>ih k tm M) tm M
   |.dr c ts ss=>ih (.code c :: .qa ts ss::k) tm M
   |.scope c=>ih (.code c::k) tm M
   |.seq a b=>ih (.code a :: .code b::k) tm M
   |.cond x a b=>match ex tm x with
    |.bool b'=>fB b' λc=>match c with
     |true=>ih (.code a::k) tm M
     |false=>ih (.code b::k) tm M
    |_=>False
   |.block id c=>ih (.code c :: .c9 id::k) tm M
   |.loop c=>AA L (.lp c::k) tm M Q
   |.exit id=>match GS id k with
    |some k'=>ih k' tm M
    |none=>False
   |.ret=>Q tm M
noncomputable def XK(L:Lib)(Q:Tm->Mem->Prop)(n:Nat):List It->Tm->Mem->Prop :=
 Nat.rec (motive:=λ_=>List It->Tm->Mem->Prop) (λk tm M=>AA L k tm M Q) (λ_ ih k tm M=>XS L Q ih k tm M) n
def bZ(tm:Tm)(M:Mem)(r:LS)(K:AV->Prop):Prop:=match r with
 |.tmp t=>f2 (tg tm t) K
 |.cell t agg n=>match tg tm t with
  |.ptr key 0 i j=>match e8 M key with
   |some (_,.bx cs)=>bif za i 0 then(match part cs j n with
    |some ds=>fL ds λds=>ti agg ds K
    |none=>False)else False
   |_=>False
  |_=>False
noncomputable def jA(tm:Tm)(M:Mem)(l:List LS):(w_->Prop)->Prop :=
 List.rec (motive:=λ_=>(w_->Prop)->Prop) (λK=>K []) (λx _ ih K=>bZ tm M x λv=>ih λvs=>K (v::vs)) l
noncomputable def rT(q:Bool)(M:Mem)(l:w_):(w_->Prop)->Prop :=
 List.rec (motive:=λ_=>(w_->Prop)->Prop) (λK=>K []) (λx _ ih K=>RM q M [] x λv=>ih λvs=>K (v::vs)) l
def rsv(vs:w_)(K:AV->Prop):Prop:=match vs with
 |[v]=>K v
 |vs=>K (.j5 vs)
def AH(a r:AV):Prop:=a=r/\AY r
noncomputable def QQ(fn:AFn)(r:AV)(tm:Tm)(M:Mem):Prop:=jA tm M fn.res λvs=>rT false M vs λvs=>rsv vs λv=>AH v r
end Go.e9

namespace Go.e9
theorem BO{a b:Nat}:za a b=true↔a=b:=⟨uc,λh=>by subst h;simp⟩
theorem F7{a b:Nat}:za a b=false↔a≠b:=by
 constructor
 ·exact Nat.ne_of_beq_eq_false
 ·intro h
  cases e:za a b
  ·rfl
  ·exact absurd (uc e) h
theorem ME(j:Nat):∀tm:Tm,tg tm j=j8 tm j
 |[]=>rfl
 |(i,v)::r=>by
  simp only[tg,cP,ME j r];cases e:za j i
  ·rw[if_neg (F7.1 e)];rfl
  ·rw[if_pos (BO.1 e)];rfl
theorem JH:∀(l:w_)(K:w_->Prop),fL l K=K l
 |[],_=>rfl
 |v::r,K=>by rw[fL,JH r]
theorem YE:∀(l:Tm)(K:Tm->Prop),fT l K=K l
 |[],_=>rfl
 |(i,v)::r,K=>by rw[fT,YE r]
theorem N0:∀(l:Mem)(K:Mem->Prop),fM l K=K l
 |[],_=>rfl
 |(k,s,c)::r,K=>by rw[fM,N0 r]
theorem AjY(n:Nat)(K:Nat->Prop):fN n K=K n:=by cases n<;>rfl
theorem lD(m i:Nat):bit m i=m.testBit i:=by
 have h:yd (Kc m i) 1=(m >>> i)%2:=fc (m >>> i);have ht:m.testBit i=decide ((m >>> i)%2=1):=by
  rw[Nat.testBit,Nat.and_comm,fc];rcases Cb (m >>> i)with e|e<;>simp[e]
 unfold bit;rw[h,ht];rcases Cb (m >>> i)with e|e<;>rw[e]<;>rfl
theorem uV(m i j:Nat):bit (Ec m (Bb 1 i)) j=(bit m j||decide (j=i)):=by
 rw[lD,lD];show(m ||| (1 <<< i)).testBit j=_;rw[Nat.testBit_or,Nat.testBit_shiftLeft];congr 1;by_cases h:j=i
 ·subst h;simp
 ·by_cases h2:j≥i
  ·obtain⟨d,rfl⟩:∃d,j=i+d+1:=⟨j-i-1,O'⟩
   rw[show i+d+1-i=d+1 by omega,Nat.testBit_succ];simp[h]
  ·simp[h2,h]
theorem uU:∀(ts:u_)(m j:Nat),bit (mask m ts) j=(bit m j||ts.contains j)
 |[],m,j=>by simp[mask]
 |t::ts,m,j=>by
  rw[mask,uU ts,uV,List.contains_cons,Bool.or_assoc];congr 2
theorem lE(j:Nat):bit 0 j=false:=by rw[lD];simp
theorem cM(j:Nat):∀(tm:Tm)(m:Nat),tg (xp m tm) j=bif bit m j then .any else tg tm j
 |[],m=>by cases bit m j<;>rfl
 |(i,v)::r,m=>by
  simp only[xp];cases hb:bit m i
  ·simp only[cond_false,tg,cM j r,uV]
   cases hj:za j i
   ·have:decide (j=i)=false:=by simpa using F7.1 hj
    simp only[cond_false,this,Bool.or_false]
   ·obtain rfl:=BO.1 hj
    simp only[cond_true,hb,cond_false]
  ·simp only[cond_true,tg,cM j r]
   cases hj:za j i
   ·rfl
   ·obtain rfl:=BO.1 hj
    simp only[hb,cond_true]
theorem gB{v:AV}{K:AV->Prop}(h:fV v K):v ≠ .any/\K v:=by
 cases v<;>simp only[fV,JH]at h<;>first|exact h.elim|exact⟨G',h⟩
theorem gA{v:AV}{K:w_->Prop}(h:fC v K):v ≠ .any/\∃cs,cellsOf v=some cs/\K cs:=by
 cases v<;>simp only[fC,fV,JH]at h<;>first|exact h.elim|exact⟨G',_,rfl,h⟩
theorem SB(b:Bool)(K:Bool->Prop):fB b K=K b:=by cases b<;>rfl
theorem AdW{k:Nat}{tm:Tm}{M:Mem}(h:used k tm M=false):IM k M=false/\J4 k tm=false:=by
 unfold used at h;cases h1:IM k M<;>simp only[h1,cond_true,cond_false]at h
 ·exact⟨rfl,h⟩
 ·cases h
theorem Ym{tm:Tm}{M:Mem}{K:Nat->Prop}:∀{l:u_},iU tm M l K->∃k,IM k M=false/\J4 k tm=false/\K k
 |[],h=>h.elim
 |k::r,h=>by
  simp only[iU]at h;cases h0:used k tm M<;>simp only[h0,cond_true,cond_false]at h
  ·exact⟨k,(AdW h0).1,(AdW h0).2,h⟩
  ·exact Ym h
theorem I8{s:Nat}{tm:Tm}{M:Mem}{K:Nat->Prop}(h:HV s tm M K):∃k,IM k M=false/\J4 k tm=false/\K k:=Ym h
section
variable {σ:GJ}
def DP(σ:GJ)(k:Nat)(f:Nat->Nat×Nat):GJ:=λj t=>if j=k then f t else σ j t
theorem CW{k j:Nat}(f:Nat->Nat×Nat)(h:j≠k):DP σ k f j=σ j:=by funext t;simp[DP,h]
theorem BZ(k:Nat)(f:Nat->Nat×Nat):DP σ k f k=f:=by funext t;simp[DP]
theorem jY{k:Nat}{p:Nat->Nat×Nat}{v:AV}(h:L7 k v=false):BA (DP σ k p) v=BA σ v:=by
 cases v with
 |row j t z o n=>simp only[L7]at h;simp only[BA,CW p (F7.1 h)]
 |ptr j t a b=>simp only[L7]at h;simp only[BA,CW p (F7.1 h)]
 |mp j t=>simp only[L7]at h;simp only[BA,CW p (F7.1 h)]
 |_=>rfl
theorem ZB{k:Nat}{p:Nat->Nat×Nat}:∀{cs:w_},KI k cs=false->cs.map (BA (DP σ k p))=cs.map (BA σ)
 |[],_=>rfl
 |c::r,h=>by
  simp only[KI]at h;cases h1:L7 k c<;>simp only[h1,cond_true,cond_false]at h
  ·rw[va,va,jY h1,ZB h]
  ·cases h
theorem sD{k:Nat}{p:Nat->Nat×Nat}:∀{es:v_},UV k es=false->(es.map λcs=>cs.map (BA (DP σ k p)))=es.map λcs=>cs.map (BA σ)
 |[],_=>rfl
 |c::r,h=>by
  simp only[UV]at h;cases h1:KI k c<;>simp only[h1,cond_true,cond_false]at h
  ·rw[va,va,ZB h1,sD h]
  ·cases h
theorem ZD{k:Nat}{p:Nat->Nat×Nat}{v:AV}(h:RJ k v=false):BN (DP σ k p) v=BN σ v:=by
 cases v with
 |agg cs=>simp only[RJ]at h;simp only[BN,ZB h]
 |fn p f g cs=>simp only[RJ]at h;simp only[BN,ZB h]
 |row a b c d e=>exact jY (v := .row a b c d e) h
 |ptr a b c d=>exact jY (v := .ptr a b c d) h
 |mp a b=>exact jY (v := .mp a b) h
 |_=>rfl
theorem Ads{k:Nat}{p:Nat->Nat×Nat}:∀{cs:w_},Y2 k cs=false->cs.map (BN (DP σ k p))=cs.map (BN σ)
 |[],_=>rfl
 |c::r,h=>by
  simp only[Y2]at h;cases h1:RJ k c<;>simp only[h1,cond_true,cond_false]at h
  ·rw[va,va,ZD h1,Ads h]
  ·cases h
theorem jZ{k:Nat}{p:Nat->Nat×Nat}{v:AV}(h:OB k v=false):BD (DP σ k p) v=BD σ v:=by
 cases v with
 |j5 cs=>simp only[OB]at h;simp only[BD,Ads h]
 |agg cs=>exact ZD (v := .agg cs) h
 |fn p f g cs=>exact ZD (v := .fn p f g cs) h
 |row a b c d e=>exact ZD (v := .row a b c d e) h
 |ptr a b c d=>exact ZD (v := .ptr a b c d) h
 |mp a b=>exact ZD (v := .mp a b) h
 |_=>rfl
theorem Y3{k:Nat}:∀{tm:Tm},J4 k tm=false->∀j,OB k (tg tm j)=false
 |[],_,_=>rfl
 |(i,v)::r,h,j=>by
  simp only[J4]at h;cases h1:OB k v<;>simp only[h1,cond_true,cond_false]at h
  ·simp only[tg]
   cases za j i
   ·exact Y3 h j
   ·exact h1
  ·cases h
theorem WS{k:Nat}:∀{M:Mem},IM k M=false->∀j s c,e8 M j=some (s,c)->j≠k/\J3 k c=false
 |[],_,_,_,_,e=>by cases e
 |(i,s0,c0)::r,h,j,s,c,e=>by
  simp only[IM]at h;cases h0:za k i<;>simp only[h0,cond_true,cond_false]at h
  ·cases h1:J3 k c0<;>simp only[h1,cond_true,cond_false]at h
   ·simp only[e8]at e
    cases h2:za j i<;>simp only[h2,cond_true,cond_false]at e
    ·exact WS h j s c e
    ·simp only[xa,Qa]at e
     obtain⟨_,rfl⟩:=e;exact⟨λe=>F7.1 h0 (e.symm.trans (BO.1 h2)),h1⟩
   ·cases h
  ·cases h
theorem S5{σ σ':GJ}{k:Nat}:∀(rows:List (p_))(i:Nat),(∀j,i<=j->σ k (j+1)=σ' k (j+1))->CP σ k i rows=CP σ' k i rows
 |[],i,h=>rfl
 |none::r,i,h=>by rw[CP,CP,S5 r (i+1) λj hj=>h j O']
 |some (z,es)::r,i,h=>by rw[CP,CP,S5 r (i+1) λj hj=>h j O',h i O']
theorem I1{k:Nat}:∀(rows:List (p_))(i j:Nat),(CP σ k i rows)[j]?=(rows[j]?).map λr=>match r with|none=>[.nil]|some (z,es)=>[.row (σ k (i+j+1)).1 (σ k (i+j+1)).2 z 0 es.length]
 |[],i,j=>by simp[CP]
 |none::r,i,0=>by simp[CP]
 |none::r,i,j+1=>by simp only[CP,zc,I1 r (i+1) j];rw[show i+1+j=i+(j+1)by omega]
 |some (z,es)::r,i,0=>by simp[CP]
 |some (z,es)::r,i,j+1=>by simp only[CP,zc,I1 r (i+1) j];rw[show i+1+j=i+(j+1)by omega]
theorem HG{k:Nat}:∀(rows:List (p_))(i:Nat),(CP σ k i rows).length=rows.length
 |[],i=>rfl
 |none::r,i=>by simp[CP,HG r]
 |some (z,es)::r,i=>by simp[CP,HG r]
theorem dW{k j:Nat}{f:Nat->Nat×Nat}{c:BC}(h:J3 k c=false)(hj:j≠k):c.c9 (DP σ k f) j=c.c9 σ j:=by
 cases c with
 |bx cs=>simp only[J3]at h;simp only[BC.c9,ZB h]
 |rw z es=>rfl
 |bs z es=>simp only[J3]at h;simp only[BC.c9,sD h]
 |mx rows=>simp only[BC.c9];rw[S5 rows 0 λi _=>by rw[CW f hj]]
 |hx a v rows=>simp only[BC.c9];rw[S5 rows 0 λi _=>by rw[CW f hj]]
 |vw w rows=>simp only[BC.c9];rw[S5 rows 0 λi _=>by rw[CW f hj]]
theorem Ahd{v:AV}(h:vh v=true):BA σ v=v:=by cases v<;>first|rfl|cases h
theorem KZ:∀{cs:w_},E1 cs=true->cs.map (BA σ)=cs
 |[],_=>rfl
 |c::r,h=>by
  simp only[E1]at h;cases h1:vh c<;>simp only[h1,cond_true,cond_false]at h
  ·cases h
  ·rw[va,Ahd h1,KZ h]
theorem Ahc{k:Nat}{v:AV}(h:vh v=true):L7 k v=false:=by cases v<;>first|rfl|cases h
theorem lT{k:Nat}:∀{cs:w_},E1 cs=true->KI k cs=false
 |[],_=>rfl
 |c::r,h=>by
  simp only[E1]at h;cases h1:vh c<;>simp only[h1,cond_true,cond_false]at h
  ·cases h
  ·simp only[KI,Ahc h1,lT h,cond_false]
theorem Aha(v:AV):cv v = .any\/(cv v=v/\BD σ v=v):=by
 cases v with
 |agg cs=>
  simp only[cv];cases h:E1 cs
  ·exact Or.inl rfl
  ·exact Or.inr ⟨rfl,by simp only[BD,BN,KZ h]⟩
 |j5 vs=>cases vs with
  |nil=>exact Or.inr ⟨rfl,rfl⟩
  |cons=>exact Or.inl rfl
 |fn p f g cs=>cases cs with
  |nil=>exact Or.inr ⟨rfl,rfl⟩
  |cons=>exact Or.inl rfl
 |_=>first|exact Or.inl rfl|exact Or.inr ⟨rfl,rfl⟩
theorem Ag7{k:Nat}(v:AV):OB k (cv v)=false:=by
 cases v with
 |agg cs=>
  simp only[cv];cases h:E1 cs
  ·rfl
  ·exact lT h
 |j5 vs=>cases vs<;>rfl
 |fn p f g cs=>cases cs<;>rfl
 |_=>rfl
variable {tm:Tm} {M:Mem} {st:St}
theorem RX.ev(h:RX σ tm M st){x:AL}{v:AV}(e:ex tm x=v)(hv:v ≠ .any):st.ev x=BD σ v:=by
 cases x with
 |t n=>
  simp only[ex]at e;rcases h.tm n with h|h
  ·exact absurd (e.symm.trans h) hv
  ·rw[e]at h;exact h
 |c u=>
  simp only[ex]at e;rcases Aha (σ:=σ) u with h|⟨h,h'⟩
  ·exact absurd (e.symm.trans h) hv
  ·rw[<-e,h,h'];rfl
theorem Tb{k:Nat}(h:J4 k tm=false)(x:AL):OB k (ex tm x)=false:=by
 cases x with
 |t n=>exact Y3 h n
 |c u=>exact Ag7 u
theorem Yu{k:Nat}{v:AV}{cs:w_}(h:OB k v=false)(e:cellsOf v=some cs):KI k cs=false:=by
 cases v<;>simp only[cellsOf,xa,reduceCtorEq]at e<;>subst e<;>first|exact h|rfl|(simp only[OB,RJ]at h;simp only[KI,h,cond_false])
theorem R1{v:AV}{cs:w_}(e:cellsOf v=some cs):cellsOf (BD σ v)=some (cs.map (BA σ)):=by
 cases v<;>simp only[cellsOf,xa,reduceCtorEq]at e<;>subst e<;>rfl
def BC.flat:BC->Prop
 |.mx rows=>∀(i:Nat)(x:Nat×v_),rows[i]?=some (some x)->False
 |.hx _ _ _=>False
 |.vw _ _=>False
 |_=>True
theorem EQ{M:Mem}{k s:Nat}{c:BC}(h:e8 M k=some (s,c)):c8 M k 0=some c:=by simp[c8,h]
theorem JL{M:Mem}{k t:Nat}{c:BC}(h:c8 M k t=some c):∃s c0,e8 M k=some (s,c0)/\(t=0->c=c0)/\(∀i,t=i+1->∃rows z es,((c0 = .mx rows\/∃a v,c0 = .hx a v rows)\/∃w,c0 = .vw w rows)/\rows[i]?=some (some (z,es))/\c = .rw z es):=by
 unfold c8 at h;cases hm:e8 M k with
 |none=>simp[hm]at h
 |some x=>
  obtain⟨s,c0⟩:=x;simp only[hm]at h;refine⟨s,c0,rfl,?_,?_⟩
  ·rintro rfl;exact(ta h).symm
  ·rintro i rfl
   cases c0 with
   |mx rows=>
    simp only at h;cases hr:rows[i]? with
    |none=>simp[hr]at h
    |some r=>
     cases r with
     |none=>simp[hr]at h
     |some ze=>obtain⟨z,es⟩:=ze;simp only[hr,xa]at h;exact⟨rows,z,es,Or.inl (Or.inl rfl),hr,h.symm⟩
   |hx a v rows=>
    simp only at h;cases hr:rows[i]? with
    |none=>simp[hr]at h
    |some r=>
     cases r with
     |none=>simp[hr]at h
     |some ze=>obtain⟨z,es⟩:=ze;simp only[hr,xa]at h;exact⟨rows,z,es,Or.inl (Or.inr ⟨a,v,rfl⟩),hr,h.symm⟩
   |vw w rows=>
    simp only at h;cases hr:rows[i]? with
    |none=>simp[hr]at h
    |some r=>
     cases r with
     |none=>simp[hr]at h
     |some ze=>obtain⟨z,es⟩:=ze;simp only[hr,xa]at h;exact⟨rows,z,es,Or.inr ⟨w,rfl⟩,hr,h.symm⟩
   |_=>simp at h
theorem RE{M:Mem}{k s:Nat}{c:BC}{j t:Nat}(h:j≠k):c8 ((k,s,c)::M) j t=c8 M j t:=by
 simp only[c8,e8,F7.2 h,cond_false]
theorem YS{M:Mem}{k s:Nat}{c:BC}:c8 ((k,s,c)::M) k 0=some c:=by simp[c8,e8]
theorem YT{M:Mem}{k s:Nat}{c:BC}(hc:c.flat){t:Nat}{c':BC}(h:c8 ((k,s,c)::M) k t=some c'):t=0/\c'=c:=by
 cases t with
 |zero=>rw[YS]at h;exact⟨rfl,(ta h).symm⟩
 |succ i=>
  simp only[c8,e8,nb,cond_true]at h;cases c with
  |mx rows=>
   simp only at h;split at h
   ·rename_i z es hr
    exact(hc i (z,es) hr).elim
   ·cases h
  |hx a v rows=>exact hc.elim
  |vw w rows=>exact hc.elim
  |_=>simp at h
theorem AlY{σ σ':GJ}{k k':Nat}{rows:List (p_)}(h:BC.flat (.mx rows)):CP σ k 0 rows=CP σ' k' 0 rows:=by
 apply Ca;intro j;rw[I1,I1];cases hr:rows[j]? with
 |none=>rfl
 |some r=>cases r with
  |none=>rfl
  |some x=>exact(h j x hr).elim
theorem RX.iu(h:RX σ tm M st){s q:Nat}(hm:IM s M=false)(ht:J4 s tm=false)(c:BC)(hf:c.flat)(hc:J3 s c=false)(hl:c.isRow=true->FG q=true) :
  RX (DP σ s λ_=>(q,st.own.j7 q)) tm ((s,q,c)::M) ⟨st.tm,st.own.put q ((st.own q).new (c.c9 σ s))⟩:=by
 have Df:∀j t c',c8 M j t=some c'->((st.own.put q ((st.own q).new (c.c9 σ s))) (σ j t).1).c9 (σ j t).2=(st.own (σ j t).1).c9 (σ j t).2:=by
  intro j t c' e;by_cases hs:(σ j t).1=q
  ·have ho:=h.sat.old _ _ _ e
   rw[hs]at ho⊢;simp only[Own.n9,B5.new];rw[if_neg O']
  ·rw[Own.jf _ _ _ _ hs]
 have Co:∀s',(st.own s').j7<=((st.own.put q ((st.own q).new (c.c9 σ s))) s').j7:=by
  intro s';by_cases hs:s'=q
  ·subst hs;simp only[Own.n9,B5.new];omega
  ·rw[Own.jf _ _ _ _ hs];exact ma _
 have q6:∀j t c',j≠s->c8 ((s,q,c)::M) j t=some c'->c8 M j t=some c':=λj t c' hj e=>by rwa [RE hj]at e
 have Dj:∀j t c',c8 M j t=some c'->J3 s c'=false/\j≠s:=by
  intro j t c' e;obtain⟨s1,c0,g1,g2,g3⟩:=JL e;obtain⟨g4,g5⟩:=WS hm _ _ _ g1;refine⟨?_,g4⟩;cases t with
  |zero=>rw[g2 rfl];exact g5
  |succ i=>obtain⟨rows,z,es,_,_,rfl⟩:=g3 i rfl;rfl
 refine⟨λj=>?_,⟨?_,?_,?_,?_,?_⟩⟩
 ·rw[jZ (Y3 ht j)];exact h.tm j
 ·intro j s' c' e
  simp only[e8]at e;cases hb:za j s<;>simp only[hb,cond_true,cond_false]at e
  ·rw[CW _ (F7.1 hb)];exact h.sat.site _ _ _ e
  ·simp only[xa,Qa]at e
   obtain⟨rfl,rfl⟩:=e;rw[BO.1 hb,BZ]
 ·intro j t c' e
  by_cases hj:j=s
  ·subst hj
   obtain⟨rfl,rfl⟩:=YT hf e;have hb:c'.c9 (DP σ j λ_=>(q,st.own.j7 q)) j=c'.c9 σ j:=by
    cases c' with
    |bx cs=>simp only[J3]at hc;simp only[BC.c9,ZB hc]
    |rw z es=>rfl
    |bs z es=>simp only[J3]at hc;simp only[BC.c9,sD hc]
    |mx rows=>exact congrArg (DI.mk 1) (AlY hf)
    |hx a v rows=>exact hf.elim
    |vw w rows=>exact hf.elim
   rw[BZ,hb];simp[Own.n9,B5.new,Own.j7]
  ·have e':=q6 j t c' hj e
   rw[CW _ hj,dW (Dj j t c' e').1 hj];exact(Df j t c' e').trans (h.sat.c9 _ _ _ e')
 ·intro j t c' e
  by_cases hj:j=s
  ·subst hj
   rw[BZ];simp[Own.n9,B5.new,Own.j7]
  ·have e':=q6 j t c' hj e
   rw[CW _ hj];exact Ga (h.sat.old _ _ _ e') (Co _)
 ·have oc:∀j t c',c8 M j t=some c'->σ j t=(q,st.own.j7 q)->False:=by
   intro j t c' e hh;have h2:=h.sat.old _ _ _ e;rw[hh]at h2;exact absurd h2 (Jb _)
  intro j t j' t' c1 c2 e1 e2 hj;by_cases h1:j=s<;>by_cases h2:j'=s
  ·subst h1;subst h2
   exact⟨rfl,(YT hf e1).1.trans (YT hf e2).1.symm⟩
  ·subst h1
   rw[BZ,CW _ h2]at hj;exact(oc _ _ _ (q6 _ _ _ h2 e2) hj.symm).elim
  ·subst h2
   rw[BZ,CW _ h1]at hj;exact(oc _ _ _ (q6 _ _ _ h1 e1) hj).elim
  ·rw[CW _ h1,CW _ h2]at hj
   exact h.sat.inj _ _ _ _ _ _ (q6 _ _ _ h1 e1) (q6 _ _ _ h2 e2) hj
 ·intro j t c' e hw
  by_cases hj:j=s
  ·subst hj
   obtain⟨rfl,rfl⟩:=YT hf e;rw[BZ];exact hl hw
  ·rw[CW _ hj];exact h.sat.low _ _ _ (q6 j t c' hj e) hw
theorem OW{k j:Nat}{x:Nat×BC}:∀{M:Mem},e8 (w5 k M) j=some x->j≠k/\e8 M j=some x
 |[],e=>by cases e
 |(i,s,c)::r,e=>by
  simp only[w5]at e;cases hb:za k i<;>simp only[hb,cond_true,cond_false]at e
  ·simp only[e8]at e⊢
   cases hj:za j i<;>simp only[hj,cond_true,cond_false]at e⊢
   ·exact OW e
   ·exact⟨λe'=>F7.1 hb (e'.symm.trans (BO.1 hj)),e⟩
  ·obtain⟨h1,h2⟩:=OW e
   refine⟨h1,?_⟩;simp only[e8];rw[F7.2 (λe'=>h1 (e'.trans (BO.1 hb).symm))];exact h2
theorem Y0{own:Own}{p:Nat×Nat}{x:Option DI}{q:Nat×Nat}(h:q≠p):((own.put p.1 ((own p.1).u5 p.2 x)) q.1).c9 q.2=(own q.1).c9 q.2:=by
 by_cases hs:q.1=p.1
 ·rw[hs,Own.n9]
  simp only[B5.u5];rw[if_neg (λe=>h (zd hs e))]
 ·rw[Own.jf _ _ _ _ hs]
theorem qO{own:Own}{p:Nat×Nat}{x:Option DI}:((own.put p.1 ((own p.1).u5 p.2 x)) p.1).c9 p.2=x:=by simp[Own.n9,B5.u5]
theorem iW{own:Own}{p:Nat×Nat}{x:Option DI}(s:Nat):((own.put p.1 ((own p.1).u5 p.2 x)) s).j7=(own s).j7:=by
 by_cases hs:s=p.1
 ·subst hs;rw[Own.n9];rfl
 ·rw[Own.jf _ _ _ _ hs]
theorem RX.Jm(h:RX σ tm M st){k s:Nat}{c:BC}(e:e8 M k=some (s,c))(hf:c.flat)(c':BC)(ot:c'.flat)(hir:c'.isRow=true->c.isRow=true) :
  RX σ tm ((k,s,c')::M) ⟨st.tm,st.own.put s ((st.own s).u5 (σ k 0).2 (some (c'.c9 σ k)))⟩:=by
 have hs:=h.sat.site _ _ _ e;subst hs;have e0:=EQ e;have hg:∀j t c1,c8 ((k,(σ k 0).1,c')::M) j t=some c1->(j=k/\t=0/\c1=c')\/(j≠k/\c8 M j t=some c1):=by
  intro j t c1 e1;by_cases hj:j=k
  ·subst hj
   obtain⟨rfl,rfl⟩:=YT ot e1;exact Or.inl ⟨rfl,rfl,rfl⟩
  ·rw[RE hj]at e1
   exact Or.inr ⟨hj,e1⟩
 have ya:∀j t c1,c8 ((k,(σ k 0).1,c')::M) j t=some c1->∃c2,c8 M j t=some c2:=by
  intro j t c1 e1;rcases hg j t c1 e1 with⟨rfl,rfl,rfl⟩|⟨_,h2⟩
  ·exact⟨c,e0⟩
  ·exact⟨c1,h2⟩
 refine⟨h.tm,⟨?_,?_,?_,?_,?_⟩⟩
 ·intro j s' c1 e1
  simp only[e8]at e1;cases hb:za j k<;>simp only[hb,cond_true,cond_false]at e1
  ·exact h.sat.site _ _ _ e1
  ·simp only[xa,Qa]at e1
   rw[BO.1 hb];exact e1.1
 ·intro j t c1 e1
  rcases hg j t c1 e1 with⟨rfl,rfl,rfl⟩|⟨h1,h2⟩
  ·exact qO
  ·refine(Y0 (λhe=>?_)).trans (h.sat.c9 _ _ _ h2)
   exact h1 (h.sat.inj _ _ _ _ _ _ h2 e0 he).1
 ·intro j t c1 e1
  obtain⟨c2,e2⟩:=ya _ _ _ e1;show(σ j t).2<((st.own.put (σ k 0).1 ((st.own (σ k 0).1).u5 (σ k 0).2 (some (c'.c9 σ k)))) (σ j t).1).j7;rw[iW];exact h.sat.old _ _ _ e2
 ·intro j t j' t' c1 c2 e1 e2 hj
  obtain⟨_,Lx⟩:=ya _ _ _ e1;obtain⟨_,Fs⟩:=ya _ _ _ e2;exact h.sat.inj _ _ _ _ _ _ Lx Fs hj
 ·intro j t c1 e1 hw
  rcases hg j t c1 e1 with⟨rfl,rfl,rfl⟩|⟨_,h2⟩
  ·exact h.sat.low _ _ _ e0 (hir hw)
  ·exact h.sat.low _ _ _ h2 hw
theorem Ve{k t:Nat}{c:BC}(h:c8 M k (t+1)=some c):c.isRow=true:=by
 obtain⟨_,_,_,_,g3⟩:=JL h;obtain⟨_,_,_,_,_,rfl⟩:=g3 t rfl;rfl
theorem N5{k j t:Nat}{c:BC}(h:c8 (w5 k M) j t=some c):j≠k/\c8 M j t=some c:=by
 obtain⟨s,c0,g1,_⟩:=JL h;obtain⟨h1,h2⟩:=OW g1;refine⟨h1,?_⟩;unfold c8 at h⊢;rw[g1]at h;rw[h2];exact h
theorem RX.kill(h:RX σ tm M st){k s:Nat}{c:BC}(e:e8 M k=some (s,c)) :
  RX σ tm (w5 k M) ⟨st.tm,st.own.put s ((st.own s).u5 (σ k 0).2 none)⟩:=by
 have hs:=h.sat.site _ _ _ e;subst hs;have e0:=EQ e;refine⟨h.tm,⟨?_,?_,?_,?_,?_⟩⟩
 ·intro j s' c1 e1
  exact h.sat.site _ _ _ (OW e1).2
 ·intro j t c1 e1
  obtain⟨hj,e1⟩:=N5 e1;refine(Y0 (λhe=>?_)).trans (h.sat.c9 _ _ _ e1);exact hj (h.sat.inj _ _ _ _ _ _ e1 e0 he).1
 ·intro j t c1 e1
  obtain⟨hj,e1⟩:=N5 e1;show(σ j t).2<((st.own.put (σ k 0).1 ((st.own (σ k 0).1).u5 (σ k 0).2 none)) (σ j t).1).j7;rw[iW];exact h.sat.old _ _ _ e1
 ·intro j t j' t' c1 c2 e1 e2 hj
  exact h.sat.inj _ _ _ _ _ _ (N5 e1).2 (N5 e2).2 hj
 ·intro j t c1 e1 hw
  exact h.sat.low _ _ _ (N5 e1).2 hw
theorem RX.Rb(h:RX σ tm M st){k s i z:Nat}{rows:List (p_)}{es es':v_}(e:e8 M k=some (s,.mx rows))(hr:rows[i]?=some (some (z,es)))(hl:es'.length=es.length) :
  RX σ tm ((k,s,.mx (rows.set i (some (z,es'))))::M) ⟨st.tm,st.own.put (σ k (i+1)).1 ((st.own (σ k (i+1)).1).u5 (σ k (i+1)).2 (some ⟨z,es'⟩))⟩:=by
 have e1:c8 M k (i+1)=some (.rw z es):=by simp[c8,e,hr]
 have hi:i<rows.length:=(zS hr).1;have lz:CP σ k 0 (rows.set i (some (z,es')))=CP σ k 0 rows:=by
  apply Ca;intro j;rw[I1,I1];by_cases hj:i=j
  ·subst hj;rw[Ma hi,hr];simp[hl]
  ·rw[La hj]
 have hg:∀j t c1,c8 ((k,s,.mx (rows.set i (some (z,es'))))::M) j t=some c1->(j=k/\t=i+1/\c1 = .rw z es')\/(¬(j=k/\t=i+1)/\∃c2,c8 M j t=some c2/\c2.c9 σ j=c1.c9 σ j):=by
  intro j t c1 g;by_cases hj:j=k
  ·subst hj
   cases t with
   |zero=>
    rw[YS]at g;obtain rfl:=ta g;exact Or.inr ⟨O',_,EQ e,by simp only[BC.c9,lz]⟩
   |succ t=>
    simp only[c8,e8,nb,cond_true]at g;by_cases po:i=t
    ·subst po
     rw[Ma hi]at g;exact Or.inl ⟨rfl,rfl,(ta g).symm⟩
    ·rw[La po]at g
     refine Or.inr ⟨O',c1,?_,rfl⟩;simp only[c8,e];exact g
  ·rw[RE hj]at g
   exact Or.inr ⟨O',c1,g,rfl⟩
 have ya:∀j t c1,c8 ((k,s,.mx (rows.set i (some (z,es'))))::M) j t=some c1->∃c2,c8 M j t=some c2:=by
  intro j t c1 g;rcases hg j t c1 g with⟨rfl,rfl,rfl⟩|⟨_,c2,h2,_⟩
  ·exact⟨_,e1⟩
  ·exact⟨c2,h2⟩
 refine⟨h.tm,⟨?_,?_,?_,?_,?_⟩⟩
 ·intro j s' c1 g
  simp only[e8]at g;cases hb:za j k<;>simp only[hb,cond_true,cond_false]at g
  ·exact h.sat.site _ _ _ g
  ·simp only[xa,Qa]at g
   rw[BO.1 hb,<-g.1];exact h.sat.site _ _ _ e
 ·intro j t c1 g
  rcases hg j t c1 g with⟨rfl,rfl,rfl⟩|⟨h1,c2,h2,h3⟩
  ·exact qO
  ·rw[<-h3]
   refine(Y0 (λhe=>?_)).trans (h.sat.c9 _ _ _ h2);exact h1 (h.sat.inj _ _ _ _ _ _ h2 e1 he)
 ·intro j t c1 g
  obtain⟨c2,e2⟩:=ya _ _ _ g;show(σ j t).2<((st.own.put (σ k (i+1)).1 ((st.own (σ k (i+1)).1).u5 (σ k (i+1)).2 (some ⟨z,es'⟩))) (σ j t).1).j7;rw[iW];exact h.sat.old _ _ _ e2
 ·intro j t j' t' c1 c2 g1 g2 hj
  obtain⟨_,Lx⟩:=ya _ _ _ g1;obtain⟨_,Fs⟩:=ya _ _ _ g2;exact h.sat.inj _ _ _ _ _ _ Lx Fs hj
 ·intro j t c1 g hw
  obtain⟨c2,e2⟩:=ya _ _ _ g;cases t with
  |zero=>
   by_cases hj:j=k
   ·subst hj;exact h.sat.low _ _ _ (EQ e) rfl
   ·rw[RE hj]at g;exact h.sat.low _ _ _ g hw
  |succ t=>exact h.sat.low _ _ _ e2 (Ve e2)
section
variable {k:Nat} {f:Nat->Nat × Nat}
theorem jW{v:AV}(hf:f 0=σ k 0)(h:NU k v=false):BA (DP σ k f) v=BA σ v:=by
 cases v with
 |row j t z o n=>
  simp only[NU]at h;cases hb:za j k
  ·simp only[BA,CW f (F7.1 hb)]
  ·obtain rfl:=BO.1 hb
   simp only[hb,cond_true]at h;cases t with
   |zero=>simp only[BA,BZ,hf]
   |succ t=>cases h
 |ptr j t a b=>
  simp only[NU]at h;cases hb:za j k
  ·simp only[BA,CW f (F7.1 hb)]
  ·obtain rfl:=BO.1 hb
   simp only[hb,cond_true]at h;cases t with
   |zero=>simp only[BA,BZ,hf]
   |succ t=>cases h
 |mp j t=>
  simp only[NU]at h;cases hb:za j k
  ·simp only[BA,CW f (F7.1 hb)]
  ·obtain rfl:=BO.1 hb
   simp only[hb,cond_true]at h;cases t with
   |zero=>simp only[BA,BZ,hf]
   |succ t=>cases h
 |_=>rfl
theorem cI(hf:f 0=σ k 0):∀{cs:w_},ON k cs=false->cs.map (BA (DP σ k f))=cs.map (BA σ)
 |[],_=>rfl
 |c::r,h=>by
  simp only[ON]at h;cases h1:NU k c<;>simp only[h1,cond_true,cond_false]at h
  ·rw[va,va,jW hf h1,cI hf h]
  ·cases h
theorem Adp(hf:f 0=σ k 0):∀{es:v_},XY k es=false->(es.map λcs=>cs.map (BA (DP σ k f)))=es.map λcs=>cs.map (BA σ)
 |[],_=>rfl
 |c::r,h=>by
  simp only[XY]at h;cases h1:ON k c<;>simp only[h1,cond_true,cond_false]at h
  ·rw[va,va,cI hf h1,Adp hf h]
  ·cases h
theorem ZC{v:AV}(hf:f 0=σ k 0)(h:VP k v=false):BN (DP σ k f) v=BN σ v:=by
 cases v with
 |agg cs=>simp only[VP]at h;simp only[BN,cI hf h]
 |fn p f g cs=>simp only[VP]at h;simp only[BN,cI hf h]
 |row a b c d e=>exact jW (v := .row a b c d e) hf h
 |ptr a b c d=>exact jW (v := .ptr a b c d) hf h
 |mp a b=>exact jW (v := .mp a b) hf h
 |_=>rfl
theorem Adq(hf:f 0=σ k 0):∀{cs:w_},XW k cs=false->cs.map (BN (DP σ k f))=cs.map (BN σ)
 |[],_=>rfl
 |c::r,h=>by
  simp only[XW]at h;cases h1:VP k c<;>simp only[h1,cond_true,cond_false]at h
  ·rw[va,va,ZC hf h1,Adq hf h]
  ·cases h
theorem AnA{v:AV}(hf:f 0=σ k 0)(h:R2 k v=false):BD (DP σ k f) v=BD σ v:=by
 cases v with
 |j5 cs=>simp only[R2]at h;simp only[BD,Adq hf h]
 |agg cs=>exact ZC (v := .agg cs) hf h
 |fn p f g cs=>exact ZC (v := .fn p f g cs) hf h
 |row a b c d e=>exact ZC (v := .row a b c d e) hf h
 |ptr a b c d=>exact ZC (v := .ptr a b c d) hf h
 |mp a b=>exact ZC (v := .mp a b) hf h
 |_=>rfl
theorem vJ:∀{tm:Tm},OO k tm=false->∀j,R2 k (tg tm j)=false
 |[],_,_=>rfl
 |(i,v)::r,h,j=>by
  simp only[OO]at h;cases h1:R2 k v<;>simp only[h1,cond_true,cond_false]at h
  ·simp only[tg]
   cases za j i
   ·exact vJ h j
   ·exact h1
  ·cases h
theorem vG:∀{M:Mem},ML k M=false->∀j s c,e8 M j=some (s,c)->QV k c=false
 |[],_,_,_,_,e=>by cases e
 |(i,s0,c0)::r,h,j,s,c,e=>by
  simp only[ML]at h;cases h1:QV k c0<;>simp only[h1,cond_true,cond_false]at h
  ·simp only[e8]at e
   cases h2:za j i<;>simp only[h2,cond_true,cond_false]at e
   ·exact vG h j s c e
   ·simp only[xa,Qa]at e
    obtain⟨_,rfl⟩:=e;exact h1
  ·cases h
theorem Agn{c:BC}{j:Nat}(hf:f 0=σ k 0)(h:QV k c=false)(hj:j≠k):c.c9 (DP σ k f) j=c.c9 σ j:=by
 cases c with
 |bx cs=>simp only[QV]at h;simp only[BC.c9,cI hf h]
 |rw z es=>rfl
 |bs z es=>simp only[QV]at h;simp only[BC.c9,Adp hf h]
 |mx rows=>simp only[BC.c9];rw[S5 rows 0 λi _=>by rw[CW f hj]]
 |hx a v rows=>simp only[BC.c9];rw[S5 rows 0 λi _=>by rw[CW f hj]]
 |vw w rows=>simp only[BC.c9];rw[S5 rows 0 λi _=>by rw[CW f hj]]
end
theorem RX.Dv(h:RX σ tm M st){k k2 s s2 i z:Nat}{rows:List (p_)}{es:v_}{c0:BC}(e:e8 M k=some (s,c0))(fb:c0 = .mx rows\/∃v,c0 = .hx i v rows)(e2:e8 M k2=some (s2,.rw z es))(hk:k≠k2)(fh:OO k tm=false)(vp:ML k M=false)(hi:i<rows.length) :
  RX (DP σ k λt=>if t=i+1 then σ k2 0 else σ k t) tm ((k,s,.mx (rows.set i (some (z,es))))::w5 k2 M) ⟨st.tm,st.own.put s ((st.own s).u5 (σ k 0).2 (some ⟨1,(CP σ k 0 rows).set i [.row (σ k2 0).1 (σ k2 0).2 z 0 es.length]⟩))⟩:=by
 have hs:=h.sat.site _ _ _ e;subst hs;have r0:=EQ e;have r2:=EQ e2;have f0:(λt=>if t=i+1 then σ k2 0 else σ k t) 0=σ k 0:=Z'
 have lz:CP (DP σ k λt=>if t=i+1 then σ k2 0 else σ k t) k 0 (rows.set i (some (z,es)))=(CP σ k 0 rows).set i [.row (σ k2 0).1 (σ k2 0).2 z 0 es.length]:=by
  apply Ca;intro j;rw[I1,BZ];by_cases hj:i=j
  ·subst hj
   rw[Ma hi,Ma (by rw[HG];exact hi)];simp
  ·rw[La hj,La hj,I1]
   congr 1;funext r
   cases r with
   |none=>rfl
   |some x=>simp only[yb];rw[if_neg O']
 have hg:∀j t c,c8 ((k,(σ k 0).1,.mx (rows.set i (some (z,es))))::w5 k2 M) j t=some c ->
   (j=k/\t=0/\c = .mx (rows.set i (some (z,es))))\/(j=k/\t=i+1/\c = .rw z es)\/(j=k/\t≠0/\t≠i+1/\c8 M k t=some c)\/(j≠k/\j≠k2/\c8 M j t=some c):=by
  intro j t c g;by_cases hj:j=k
  ·subst hj
   cases t with
   |zero=>rw[YS]at g;exact Or.inl ⟨rfl,rfl,(ta g).symm⟩
   |succ t=>
    simp only[c8,e8,nb,cond_true]at g;by_cases po:i=t
    ·subst po
     rw[Ma hi]at g;exact Or.inr (Or.inl ⟨rfl,rfl,(ta g).symm⟩)
    ·rw[La po]at g
     refine Or.inr (Or.inr (Or.inl ⟨rfl,O',O',?_⟩));rcases fb with rfl|⟨v,rfl⟩
     ·simp only[c8,e]
      exact g
     ·simp only[c8,e]
      exact g
  ·rw[RE hj]at g
   obtain⟨g1,g2⟩:=N5 g;exact Or.inr (Or.inr (Or.inr ⟨hj,g1,g2⟩))
 have hch:∀j t c,c8 M j t=some c->QV k c=false:=by
  intro j t c g;obtain⟨s1,c0,g1,g2,g3⟩:=JL g;cases t with
  |zero=>rw[g2 rfl];exact vG vp _ _ _ g1
  |succ t=>obtain⟨_,_,_,_,_,rfl⟩:=g3 t rfl;rfl
 refine⟨λj=>?_,⟨?_,?_,?_,?_,?_⟩⟩
 ·rw[AnA (f:=λt=>if t=i+1 then σ k2 0 else σ k t) f0 (vJ fh j)];exact h.tm j
 ·intro j s' c g
  simp only[e8]at g;cases hb:za j k<;>simp only[hb,cond_true,cond_false]at g
  ·rw[CW _ (F7.1 hb)];exact h.sat.site _ _ _ (OW g).2
  ·simp only[xa,Qa]at g
   rw[BO.1 hb,BZ,<-g.1];simp
 ·intro j t c g
  rcases hg j t c g with⟨rfl,rfl,rfl⟩|⟨rfl,rfl,rfl⟩|⟨rfl,h0,h1,g2⟩|⟨h0,h1,g2⟩
  ·rw[BZ]
   simp only[BC.c9,lz];exact qO
  ·rw[BZ]
   simp only[if_true];exact(Y0 (λhe=>hk (h.sat.inj _ _ _ _ _ _ r2 r0 he).1.symm)).trans (h.sat.c9 _ _ _ r2)
  ·rw[BZ]
   simp only[h1,if_false];have hb:c.c9 (DP σ j λt=>if t=i+1 then σ k2 0 else σ j t) j=c.c9 σ j:=by
    obtain⟨_,_,_,_,g3⟩:=JL g2;obtain⟨t',rfl⟩:∃t',t=t'+1:=⟨t-1,O'⟩;obtain⟨_,_,_,_,_,rfl⟩:=g3 t' rfl;rfl
   rw[hb];exact(Y0 (λhe=>h0 (h.sat.inj _ _ _ _ _ _ g2 r0 he).2)).trans (h.sat.c9 _ _ _ g2)
  ·rw[CW _ h0,Agn (f:=λt=>if t=i+1 then σ k2 0 else σ k t) f0 (hch _ _ _ g2) h0]
   exact(Y0 (λhe=>h0 (h.sat.inj _ _ _ _ _ _ g2 r0 he).1)).trans (h.sat.c9 _ _ _ g2)
 ·intro j t c g
  rw[iW];rcases hg j t c g with⟨rfl,rfl,rfl⟩|⟨rfl,rfl,rfl⟩|⟨rfl,h0,h1,g2⟩|⟨h0,h1,g2⟩
  ·rw[BZ];simpa using h.sat.old _ _ _ r0
  ·rw[BZ];simpa using h.sat.old _ _ _ r2
  ·rw[BZ];simp only[h1,if_false];exact h.sat.old _ _ _ g2
  ·rw[CW _ h0];exact h.sat.old _ _ _ g2
 ·-- each name is that of Fh in the old memory
  have hold:∀j t c,c8 ((k,(σ k 0).1,.mx (rows.set i (some (z,es))))::w5 k2 M) j t=some c->∃j0 t0 c0,c8 M j0 t0=some c0/\(DP σ k λt=>if t=i+1 then σ k2 0 else σ k t) j t=σ j0 t0/\((j0=k2/\t0=0/\j=k/\t=i+1)\/(j0=j/\t0=t/\j≠k2)):=by
   intro j t c g;rcases hg j t c g with⟨rfl,rfl,rfl⟩|⟨rfl,rfl,rfl⟩|⟨rfl,h0,h1,g2⟩|⟨h0,h1,g2⟩
   ·exact⟨_,_,_,r0,by rw[BZ];simp,Or.inr ⟨rfl,rfl,hk⟩⟩
   ·exact⟨_,_,_,r2,by rw[BZ];simp,Or.inl ⟨rfl,rfl,rfl,rfl⟩⟩
   ·exact⟨_,_,_,g2,by rw[BZ];simp[h1],Or.inr ⟨rfl,rfl,hk⟩⟩
   ·exact⟨_,_,_,g2,by rw[CW _ h0],Or.inr ⟨rfl,rfl,h1⟩⟩
  intro j t j' t' c c' g g' hj;obtain⟨j0,t0,c0,a1,a2,a3⟩:=hold j t c g;obtain⟨j1,t1,c1,b1,b2,b3⟩:=hold j' t' c' g';rw[a2,b2]at hj;obtain⟨q1,q2⟩:=h.sat.inj _ _ _ _ _ _ a1 b1 hj;rcases a3 with⟨x1,x2,x3,x4⟩|⟨x1,x2,x3⟩<;>rcases b3 with⟨y1,y2,y3,y4⟩|⟨y1,y2,y3⟩
  ·exact⟨x3.trans y3.symm,x4.trans y4.symm⟩
  ·exact absurd (y1.symm.trans (q1.symm.trans x1)) y3
  ·exact absurd (x1.symm.trans (q1.trans y1)) x3
  ·exact⟨x1.symm.trans (q1.trans y1),x2.symm.trans (q2.trans y2)⟩
 ·intro j t c g hw
  rcases hg j t c g with⟨rfl,rfl,rfl⟩|⟨rfl,rfl,rfl⟩|⟨rfl,h0,h1,g2⟩|⟨h0,h1,g2⟩
  ·rw[BZ];simpa using h.sat.low _ _ _ r0 (by rcases fb with rfl|⟨v,rfl⟩<;>rfl)
  ·rw[BZ];simpa using h.sat.low _ _ _ r2 rfl
  ·rw[BZ];simp only[h1,if_false];exact h.sat.low _ _ _ g2 hw
  ·rw[CW _ h0];exact h.sat.low _ _ _ g2 hw
theorem WB{own:Own}{q t:Nat}{b:DI}{p:Nat×Nat}(h:p≠(q,t))(ho:p.2<(own p.1).j7):((own.put q (((own q).u5 t none).new b)) p.1).c9 p.2=(own p.1).c9 p.2:=by
 by_cases hs:p.1=q
 ·rw[hs]at ho⊢
  rw[Own.n9];simp only[B5.new,B5.u5];have h1:¬p.2=(own q).j7:=O'
  have h2:¬p.2=t:=λe=>h (zd hs e)
  simp only[h1,h2,if_false]
 ·rw[Own.jf _ _ _ _ hs]
theorem WC{own:Own}{q t:Nat}{b:DI}(s:Nat):(own s).j7<=((own.put q (((own q).u5 t none).new b)) s).j7:=by
 by_cases hs:s=q
 ·subst hs;rw[Own.n9];simp only[B5.new,B5.u5];omega
 ·rw[Own.jf _ _ _ _ hs];exact ma _
theorem RX.Lr(h:RX σ tm M st){s key sk i z:Nat}{rows:List (p_)}{es es':v_}(e:e8 M key=some (sk,.mx rows))(hr:rows[i]?=some (some (z,es)))(hm:IM s M=false)(ht:J4 s tm=false) :
  RX (DP σ s λ_=>((σ key (i+1)).1,st.own.j7 (σ key (i+1)).1)) tm ((s,(σ key (i+1)).1,.rw z es')::(key,sk,.hx i (.row (σ key (i+1)).1 (σ key (i+1)).2 z 0 es.length) (rows.set i none))::w5 key M)
   ⟨st.tm,st.own.put (σ key (i+1)).1 (((st.own (σ key (i+1)).1).u5 (σ key (i+1)).2 none).new ⟨z,es'⟩)⟩:=by
 have r0:=EQ e;have e1:c8 M key (i+1)=some (.rw z es):=by simp[c8,e,hr]
 have hi:i<rows.length:=(zS hr).1;have zh:key≠s:=(WS hm _ _ _ e).1;have lz:(CP (DP σ s λ_=>((σ key (i+1)).1,st.own.j7 (σ key (i+1)).1)) key 0 (rows.set i none)).set i [.row (σ key (i+1)).1 (σ key (i+1)).2 z 0 es.length]=CP σ key 0 rows:=by
  apply Ca;intro j;by_cases hj:i=j
  ·subst hj
   rw[Ma (by rw[HG,List.length_set];exact hi),I1,hr];simp
  ·rw[La hj,I1,I1,La hj,CW _ zh]
 have Dj:∀j t c',c8 M j t=some c'->J3 s c'=false/\j≠s:=by
  intro j t c' g;obtain⟨s1,c0,g1,g2,g3⟩:=JL g;obtain⟨g4,g5⟩:=WS hm _ _ _ g1;refine⟨?_,g4⟩;cases t with
  |zero=>rw[g2 rfl];exact g5
  |succ i=>obtain⟨rows,z,es,_,_,rfl⟩:=g3 i rfl;rfl
 have hg:∀j t c,c8 ((s,(σ key (i+1)).1,.rw z es')::(key,sk,.hx i (.row (σ key (i+1)).1 (σ key (i+1)).2 z 0 es.length) (rows.set i none))::w5 key M) j t=some c ->
   (j=s/\t=0/\c = .rw z es')\/(j=key/\t=0/\c = .hx i (.row (σ key (i+1)).1 (σ key (i+1)).2 z 0 es.length) (rows.set i none))\/(j≠s/\¬(j=key/\t=0)/\¬(j=key/\t=i+1)/\(j=key->∃z es,c = .rw z es)/\c8 M j t=some c):=by
  intro j t c g;by_cases hj:j=s
  ·subst hj
   obtain⟨rfl,rfl⟩:=YT (c := .rw z es') trivial g;exact Or.inl ⟨rfl,rfl,rfl⟩
  ·rw[RE hj]at g
   by_cases hk:j=key
   ·subst hk
    cases t with
    |zero=>rw[YS]at g;exact Or.inr (Or.inl ⟨rfl,rfl,(ta g).symm⟩)
    |succ t=>
     simp only[c8,e8,nb,cond_true]at g;by_cases po:i=t
     ·subst po
      rw[Ma hi]at g;cases g
     ·rw[La po]at g
      refine Or.inr (Or.inr ⟨hj,O',O',λ_=>?_,?_⟩)
      ·split at g
       ·exact⟨_,_,(ta g).symm⟩
       ·cases g
      ·simp only[c8,e]
       exact g
   ·rw[RE hk]at g
    obtain⟨g1,g2⟩:=N5 g;exact Or.inr (Or.inr ⟨hj,O',O',λh=>absurd h hk,g2⟩)
 refine⟨λj=>?_,⟨?_,?_,?_,?_,?_⟩⟩
 ·rw[jZ (Y3 ht j)];exact h.tm j
 ·intro j s1 c g
  simp only[e8]at g;cases hb:za j s<;>simp only[hb,cond_true,cond_false]at g
  ·rw[CW _ (F7.1 hb)]
   cases w7:za j key<;>simp only[w7,cond_true,cond_false]at g
   ·exact h.sat.site _ _ _ (OW g).2
   ·simp only[xa,Qa]at g
    rw[BO.1 w7,<-g.1];exact h.sat.site _ _ _ e
  ·simp only[xa,Qa]at g
   rw[BO.1 hb,BZ,<-g.1]
 ·intro j t c g
  rcases hg j t c g with⟨rfl,rfl,rfl⟩|⟨rfl,rfl,rfl⟩|⟨h0,h1,h2,h3,g2⟩
  ·rw[BZ]
   simp[Own.n9,B5.new,Own.j7,B5.u5,BC.c9]
  ·rw[CW _ zh]
   simp only[BC.c9,lz];exact(WB (λhe=>absurd (h.sat.inj _ _ _ _ _ _ r0 e1 he).2 O') (h.sat.old _ _ _ r0)).trans (h.sat.c9 _ _ _ r0)
  ·rw[CW _ h0,dW (Dj _ _ _ g2).1 h0]
   exact(WB (λhe=>h2 (h.sat.inj _ _ _ _ _ _ g2 e1 he)) (h.sat.old _ _ _ g2)).trans (h.sat.c9 _ _ _ g2)
 ·intro j t c g
  rcases hg j t c g with⟨rfl,rfl,rfl⟩|⟨rfl,rfl,rfl⟩|⟨h0,h1,h2,h3,g2⟩
  ·rw[BZ]
   simp[Own.n9,B5.new,Own.j7,B5.u5]
  ·rw[CW _ zh]
   exact Ga (h.sat.old _ _ _ r0) (WC _)
  ·rw[CW _ h0]
   exact Ga (h.sat.old _ _ _ g2) (WC _)
 ·have hold:∀j t c,c8 ((s,(σ key (i+1)).1,.rw z es')::(key,sk,.hx i (.row (σ key (i+1)).1 (σ key (i+1)).2 z 0 es.length) (rows.set i none))::w5 key M) j t=some c->(j=s/\t=0)\/(j≠s/\∃c0,c8 M j t=some c0):=by
   intro j t c g;rcases hg j t c g with⟨rfl,rfl,rfl⟩|⟨rfl,rfl,rfl⟩|⟨h0,h1,h2,h3,g2⟩
   ·exact Or.inl ⟨rfl,rfl⟩
   ·exact Or.inr ⟨zh,_,r0⟩
   ·exact Or.inr ⟨h0,_,g2⟩
  have pt:∀j0 t0 c0,c8 M j0 t0=some c0->((σ key (i+1)).1,st.own.j7 (σ key (i+1)).1)≠σ j0 t0:=by
   intro j0 t0 c0 g he;have:=h.sat.old _ _ _ g
   rw[<-he]at this;exact absurd this (Jb _)
  intro j t j' t' c c' g g' hj;rcases hold j t c g with⟨rfl,rfl⟩|⟨a1,c1,a2⟩<;>rcases hold j' t' c' g' with⟨rfl,rfl⟩|⟨b1,c2,b2⟩
  ·exact⟨rfl,rfl⟩
  ·rw[BZ,CW _ b1]at hj;exact absurd hj (pt _ _ _ b2)
  ·rw[BZ,CW _ a1]at hj;exact absurd hj.symm (pt _ _ _ a2)
  ·rw[CW _ a1,CW _ b1]at hj
   exact h.sat.inj _ _ _ _ _ _ a2 b2 hj
 ·intro j t c g hw
  rcases hg j t c g with⟨rfl,rfl,rfl⟩|⟨rfl,rfl,rfl⟩|⟨h0,h1,h2,h3,g2⟩
  ·rw[BZ];exact h.sat.low _ _ _ e1 rfl
  ·rw[CW _ zh];exact h.sat.low _ _ _ r0 rfl
  ·rw[CW _ h0];exact h.sat.low _ _ _ g2 hw
theorem RX.Lt(h:RX σ tm M st){s key s':Nat}{rows:List (p_)}(e:e8 M key=some (s',.mx rows))(hm:IM s M=false)(ht:J4 s tm=false) :
  RX (DP σ s λt=>match t with|0=>(s',st.own.j7 s')|i+1=>σ key (i+1)) tm ((s,s',.mx (rows++[none]))::w5 key M)
   ⟨st.tm,st.own.put s' (((st.own s').u5 (σ key 0).2 none).new ⟨1,CP σ key 0 rows++[[.nil]]⟩)⟩:=by
 have hs:=h.sat.site _ _ _ e;subst hs;have r0:=EQ e;generalize hF:(λt=>match t with|0=>((σ key 0).1,st.own.j7 (σ key 0).1)|i+1=>σ key (i+1):Nat->Nat×Nat)=F;have F0:F 0=((σ key 0).1,st.own.j7 (σ key 0).1):=by rw[<-hF]
 have F1:∀i,F (i+1)=σ key (i+1):=by intro i;rw[<-hF]
 have lz:CP (DP σ s F) s 0 (rows++[none])=CP σ key 0 rows++[[.nil]]:=by
  apply Ca;intro j;rw[I1,BZ];rcases Qb j rows.length with hj|hj|hj
  ·rw[Ha hj,Ha (by rw[HG];exact hj),I1]
   congr 1;funext r
   cases r with
   |none=>rfl
   |some x=>simp only[yb];rw[F1]
  ·subst hj
   rw[Ka (ma _),Ka (by rw[HG];exact ma _),HG];simp
  ·rw[Ea K',Ea (by simp[HG];omega)];rfl
 have Dj:∀j t c',c8 M j t=some c'->J3 s c'=false/\j≠s:=by
  intro j t c' g;obtain⟨s1,c0,g1,g2,g3⟩:=JL g;obtain⟨g4,g5⟩:=WS hm _ _ _ g1;refine⟨?_,g4⟩;cases t with
  |zero=>rw[g2 rfl];exact g5
  |succ i=>obtain⟨rows,z,es,_,_,rfl⟩:=g3 i rfl;rfl
 have hg:∀j t c,c8 ((s,(σ key 0).1,.mx (rows++[none]))::w5 key M) j t=some c ->
   (j=s/\t=0/\c = .mx (rows++[none]))\/(j=s/\t≠0/\c8 M key t=some c)\/(j≠s/\j≠key/\c8 M j t=some c):=by
  intro j t c g;by_cases hj:j=s
  ·subst hj
   cases t with
   |zero=>rw[YS]at g;exact Or.inl ⟨rfl,rfl,(ta g).symm⟩
   |succ t=>
    simp only[c8,e8,nb,cond_true]at g;rcases Qb t rows.length with ny|ny|ny
    ·rw[Ha ny]at g
     refine Or.inr (Or.inl ⟨rfl,O',?_⟩);simp only[c8,e];exact g
    ·subst ny
     rw[Ka (ma _),Fc]at g;simp at g
    ·rw[Ea K']at g;cases g
  ·rw[RE hj]at g
   obtain⟨g1,g2⟩:=N5 g;exact Or.inr (Or.inr ⟨hj,g1,g2⟩)
 refine⟨λj=>?_,⟨?_,?_,?_,?_,?_⟩⟩
 ·rw[jZ (Y3 ht j)];exact h.tm j
 ·intro j s1 c g
  simp only[e8]at g;cases hb:za j s<;>simp only[hb,cond_true,cond_false]at g
  ·rw[CW _ (F7.1 hb)];exact h.sat.site _ _ _ (OW g).2
  ·simp only[xa,Qa]at g
   rw[BO.1 hb,BZ,F0,<-g.1]
 ·intro j t c g
  rcases hg j t c g with⟨rfl,rfl,rfl⟩|⟨rfl,h0,g2⟩|⟨h0,h1,g2⟩
  ·rw[BZ,F0]
   simp only[BC.c9,lz];simp[Own.n9,B5.new,Own.j7,B5.u5]
  ·obtain⟨t',rfl⟩:∃t',t=t'+1:=⟨t-1,O'⟩
   rw[BZ,F1];have hb:c.c9 (DP σ j F) j=c.c9 σ key:=by
    obtain⟨_,_,_,_,g3⟩:=JL g2;obtain⟨_,_,_,_,_,rfl⟩:=g3 t' rfl;rfl
   rw[hb];exact(WB (λhe=>absurd (h.sat.inj _ _ _ _ _ _ g2 r0 he).2 O') (h.sat.old _ _ _ g2)).trans (h.sat.c9 _ _ _ g2)
  ·rw[CW _ h0,dW (Dj _ _ _ g2).1 h0]
   exact(WB (λhe=>h1 (h.sat.inj _ _ _ _ _ _ g2 r0 he).1) (h.sat.old _ _ _ g2)).trans (h.sat.c9 _ _ _ g2)
 ·intro j t c g
  rcases hg j t c g with⟨rfl,rfl,rfl⟩|⟨rfl,h0,g2⟩|⟨h0,h1,g2⟩
  ·rw[BZ,F0]
   simp[Own.n9,B5.new,Own.j7,B5.u5]
  ·obtain⟨t',rfl⟩:∃t',t=t'+1:=⟨t-1,O'⟩
   rw[BZ,F1];exact Ga (h.sat.old _ _ _ g2) (WC _)
  ·rw[CW _ h0]
   exact Ga (h.sat.old _ _ _ g2) (WC _)
 ·have hold:∀j t c,c8 ((s,(σ key 0).1,.mx (rows++[none]))::w5 key M) j t=some c->(j=s/\t=0)\/∃j0 t0 c0,c8 M j0 t0=some c0/\DP σ s F j t=σ j0 t0/\((j0=key/\t0=t/\j=s)\/(j0=j/\t0=t/\j≠key)):=by
   intro j t c g;rcases hg j t c g with⟨rfl,rfl,rfl⟩|⟨rfl,h0,g2⟩|⟨h0,h1,g2⟩
   ·exact Or.inl ⟨rfl,rfl⟩
   ·obtain⟨t',rfl⟩:∃t',t=t'+1:=⟨t-1,O'⟩
    exact Or.inr ⟨_,_,_,g2,by rw[BZ,F1],Or.inl ⟨rfl,rfl,rfl⟩⟩
   ·exact Or.inr ⟨_,_,_,g2,by rw[CW _ h0],Or.inr ⟨rfl,rfl,h1⟩⟩
  have pt:∀j0 t0 c0,c8 M j0 t0=some c0->DP σ s F s 0≠σ j0 t0:=by
   intro j0 t0 c0 g he;rw[BZ,F0]at he;have:=h.sat.old _ _ _ g
   rw[<-he]at this;exact absurd this (Jb _)
  intro j t j' t' c c' g g' hj;rcases hold j t c g with⟨rfl,rfl⟩|⟨j0,t0,c0,a1,a2,a3⟩<;>rcases hold j' t' c' g' with⟨rfl,rfl⟩|⟨j1,t1,c1,b1,b2,b3⟩
  ·exact⟨rfl,rfl⟩
  ·rw[b2]at hj;exact absurd hj (pt _ _ _ b1)
  ·rw[a2]at hj;exact absurd hj.symm (pt _ _ _ a1)
  ·rw[a2,b2]at hj
   obtain⟨q1,q2⟩:=h.sat.inj _ _ _ _ _ _ a1 b1 hj;rcases a3 with⟨x1,x2,x3⟩|⟨x1,x2,x3⟩<;>rcases b3 with⟨y1,y2,y3⟩|⟨y1,y2,y3⟩
   ·exact⟨x3.trans y3.symm,x2.symm.trans (q2.trans y2)⟩
   ·exact absurd (y1.symm.trans (q1.symm.trans x1)) y3
   ·exact absurd (x1.symm.trans (q1.trans y1)) x3
   ·exact⟨x1.symm.trans (q1.trans y1),x2.symm.trans (q2.trans y2)⟩
 ·intro j t c g hw
  rcases hg j t c g with⟨rfl,rfl,rfl⟩|⟨rfl,h0,g2⟩|⟨h0,h1,g2⟩
  ·rw[BZ,F0];exact h.sat.low _ _ _ r0 rfl
  ·obtain⟨t',rfl⟩:∃t',t=t'+1:=⟨t-1,O'⟩
   rw[BZ,F1];exact h.sat.low _ _ _ g2 hw
  ·rw[CW _ h0];exact h.sat.low _ _ _ g2 hw
theorem eC{k:Nat}{v:AV}(h:L7 k v=false):NU k v=false:=by
 cases v with
 |row j t z o n=>simp only[L7]at h;simp only[NU,h,cond_false]
 |ptr j t a b=>simp only[L7]at h;simp only[NU,h,cond_false]
 |mp j t=>simp only[L7]at h;simp only[NU,h,cond_false]
 |_=>rfl
theorem Z4{k:Nat}:∀{cs:w_},KI k cs=false->ON k cs=false
 |[],_=>rfl
 |c::r,h=>by
  simp only[KI]at h;cases h1:L7 k c<;>simp only[h1,cond_true,cond_false]at h
  ·simp only[ON,eC h1,cond_false,Z4 h]
  ·cases h
theorem vF{k:Nat}:∀{es:v_},UV k es=false->XY k es=false
 |[],_=>rfl
 |c::r,h=>by
  simp only[UV]at h;cases h1:KI k c<;>simp only[h1,cond_true,cond_false]at h
  ·simp only[XY,Z4 h1,cond_false,vF h]
  ·cases h
theorem XX{k:Nat}{v:AV}(h:RJ k v=false):VP k v=false:=by
 cases v with
 |agg cs=>exact Z4 h
 |fn p f g cs=>exact Z4 h
 |row a b c d e=>exact eC (v := .row a b c d e) h
 |ptr a b c d=>exact eC (v := .ptr a b c d) h
 |mp a b=>exact eC (v := .mp a b) h
 |_=>rfl
theorem vE{k:Nat}:∀{cs:w_},Y2 k cs=false->XW k cs=false
 |[],_=>rfl
 |c::r,h=>by
  simp only[Y2]at h;cases h1:RJ k c<;>simp only[h1,cond_true,cond_false]at h
  ·simp only[XW,XX h1,cond_false,vE h]
  ·cases h
theorem AgA{k:Nat}{v:AV}(h:OB k v=false):R2 k v=false:=by
 cases v with
 |j5 cs=>exact vE h
 |agg cs=>exact XX (v := .agg cs) h
 |fn p f g cs=>exact XX (v := .fn p f g cs) h
 |row a b c d e=>exact XX (v := .row a b c d e) h
 |ptr a b c d=>exact XX (v := .ptr a b c d) h
 |mp a b=>exact XX (v := .mp a b) h
 |_=>rfl
theorem vI{k:Nat}:∀{tm:Tm},J4 k tm=false->OO k tm=false
 |[],_=>rfl
 |(i,v)::r,h=>by
  simp only[J4]at h;cases h1:OB k v<;>simp only[h1,cond_true,cond_false]at h
  ·simp only[OO,AgA h1,cond_false,vI h]
  ·cases h
theorem vH{k:Nat}:∀{M:Mem},IM k M=false->ML k M=false
 |[],_=>rfl
 |(i,s,c)::r,h=>by
  simp only[IM]at h;cases h0:za k i<;>simp only[h0,cond_true,cond_false]at h
  ·cases h1:J3 k c<;>simp only[h1,cond_true,cond_false]at h
   ·have:QV k c=false:=by
     cases c with
     |bx cs=>exact Z4 h1
     |bs z es=>exact vF h1
     |_=>rfl
    simp only[ML,this,cond_false,vH h]
   ·cases h
  ·cases h
theorem RX.hid{M1 M2:Mem}(hm:∀k,e8 M1 k=e8 M2 k)(h:RX σ tm M1 st):RX σ tm M2 st:=by
 have hr:∀k t,c8 M1 k t=c8 M2 k t:=λk t=>by simp only[c8,hm]
 refine⟨h.tm,⟨λk s c e=>?_,λk t c e=>?_,λk t c e=>?_,λk t k' t' c c' e e'=>?_,λk t c e hw=>?_⟩⟩
 ·rw[<-hm]at e;exact h.sat.site _ _ _ e
 ·rw[<-hr]at e;exact h.sat.c9 _ _ _ e
 ·rw[<-hr]at e;exact h.sat.old _ _ _ e
 ·rw[<-hr]at e e';exact h.sat.inj _ _ _ _ _ _ e e'
 ·rw[<-hr]at e;exact h.sat.low _ _ _ e hw
theorem RX.Ra(h:RX σ tm M st){s q k2 s2 z:Nat}{es:v_}(e2:e8 M k2=some (s2,.rw z es))(hk:s≠k2)(hm:IM s M=false)(ht:J4 s tm=false)(hq:FG q=true) :
  ∃σ',σ' s 0=(q,st.own.j7 q)/\RX σ' tm ((s,q,.mx [some (z,es)])::w5 k2 M) ⟨st.tm,st.own.put q ((st.own q).new ⟨1,[[.row (σ k2 0).1 (σ k2 0).2 z 0 es.length]]⟩)⟩:=by
 have jc:BC.flat (.mx [none]):=by
  intro i x hx;cases i with
  |zero=>simp at hx
  |succ i=>simp at hx
 have h1:=h.iu (s:=s) (q:=q) hm ht (.mx [none]) jc rfl (λ_=>hq);have Fs:e8 ((s,q,.mx [none])::M) k2=some (s2,.rw z es):=by
  simp only[e8,F7.2 (λe=>hk e.symm),cond_false];exact e2
 have vp:ML s ((s,q,.mx [none])::M)=false:=by simp only[ML,QV,cond_false,vH hm]
 have h2:=h1.Dv (k:=s) (s:=q) (k2:=k2) (i:=0) (rows:=[none]) (c0 := .mx [none]) (by simp[e8]) (Or.inl rfl) Fs hk (vI ht) vp Z';refine⟨DP σ s (λt=>if t=0+1 then σ k2 0 else(q,st.own.j7 q)),?_,?_⟩
 ·rw[BZ];simp
 ·have hσ:(DP (DP σ s λ_=>(q,st.own.j7 q)) s λt=>if t=0+1 then(DP σ s λ_=>(q,st.own.j7 q)) k2 0 else(DP σ s λ_=>(q,st.own.j7 q)) s t)=DP σ s (λt=>if t=0+1 then σ k2 0 else(q,st.own.j7 q)):=by
   funext j t
   by_cases hj:j=s
   ·subst hj;rw[BZ,BZ];simp only[BZ,CW _ (λe=>hk e.symm)]
   ·rw[CW _ hj,CW _ hj,CW _ hj]
  rw[hσ]at h2;have hM:w5 k2 ((s,q,BC.mx [none])::M)=(s,q,.mx [none])::w5 k2 M:=by
   simp only[w5,F7.2 (λe=>hk e.symm),cond_false]
  rw[hM]at h2;have ho:∀b b':DI,(st.own.put q ((st.own q).new b)).put q (((st.own.put q ((st.own q).new b)) q).u5 (st.own.j7 q) (some b'))=st.own.put q ((st.own q).new b'):=by
   intro b b';rw[Own.kb,Own.n9];congr 1;simp only[B5.u5,B5.new,Own.j7,B5.mk.injEq,true_and];funext t'
   by_cases ny:t'=(st.own q).j7<;>simp[ny]
  have hn:(DP σ s λ_=>(q,st.own.j7 q)) s 0=(q,st.own.j7 q):=by rw[BZ]
  have pc:(DP σ s λ_=>(q,st.own.j7 q)) k2=σ k2:=CW _ (λe=>hk e.symm);simp only[hn,pc]at h2;rw[ho]at h2;refine RX.hid (λk=>?_) h2;simp only[e8];cases za k s<;>rfl
theorem RX.Ls(h:RX σ tm M st){s key k2 ky s' s2 z:Nat}{rows:List (p_)}{es:v_}(e:e8 M key=some (s',.mx rows))(e2:e8 M k2=some (s2,.rw z es))(hk:key≠k2)(hm:IM s M=false)(ht:J4 s tm=false) :
  RX (DP σ s λt=>match t with|0=>(s',st.own.j7 s')|i+1=>if i=rows.length then σ k2 0 else σ key (i+1)) tm ((s,s',.mx (rows++[some (z,es)]))::w5 key (w5 k2 (w5 ky M)))
   ⟨st.tm,st.own.put s' (((st.own s').u5 (σ key 0).2 none).new ⟨1,CP σ key 0 rows++[[.row (σ k2 0).1 (σ k2 0).2 z 0 es.length]]⟩)⟩:=by
 have hs:=h.sat.site _ _ _ e;subst hs;have r0:=EQ e;have r2:=EQ e2;generalize hF:(λt=>match t with|0=>((σ key 0).1,st.own.j7 (σ key 0).1)|i+1=>if i=rows.length then σ k2 0 else σ key (i+1):Nat->Nat×Nat)=F;have F0:F 0=((σ key 0).1,st.own.j7 (σ key 0).1):=by rw[<-hF]
 have F1:∀i,F (i+1)=if i=rows.length then σ k2 0 else σ key (i+1):=by intro i;rw[<-hF]
 have lz:CP (DP σ s F) s 0 (rows++[some (z,es)])=CP σ key 0 rows++[[.row (σ k2 0).1 (σ k2 0).2 z 0 es.length]]:=by
  apply Ca;intro j;rw[I1,BZ];rcases Qb j rows.length with hj|hj|hj
  ·rw[Ha hj,Ha (by rw[HG];exact hj),I1]
   congr 1;funext r
   cases r with
   |none=>rfl
   |some x=>simp only[yb];rw[F1,if_neg O']
  ·subst hj
   rw[Ka (ma _),Ka (by rw[HG];exact ma _),HG];simp[F1]
  ·rw[Ea K',Ea (by simp[HG];omega)];rfl
 have Dj:∀j t c',c8 M j t=some c'->J3 s c'=false/\j≠s:=by
  intro j t c' g;obtain⟨s1,c0,g1,g2,g3⟩:=JL g;obtain⟨g4,g5⟩:=WS hm _ _ _ g1;refine⟨?_,g4⟩;cases t with
  |zero=>rw[g2 rfl];exact g5
  |succ i=>obtain⟨rows,z,es,_,_,rfl⟩:=g3 i rfl;rfl
 have hg:∀j t c,c8 ((s,(σ key 0).1,.mx (rows++[some (z,es)]))::w5 key (w5 k2 (w5 ky M))) j t=some c ->
   (j=s/\t=0/\c = .mx (rows++[some (z,es)]))\/(j=s/\t=rows.length+1/\c = .rw z es)\/(j=s/\t≠0/\t≠rows.length+1/\c8 M key t=some c)\/(j≠s/\j≠key/\j≠k2/\c8 M j t=some c):=by
  intro j t c g;by_cases hj:j=s
  ·subst hj
   cases t with
   |zero=>rw[YS]at g;exact Or.inl ⟨rfl,rfl,(ta g).symm⟩
   |succ t=>
    simp only[c8,e8,nb,cond_true]at g;rcases Qb t rows.length with ny|ny|ny
    ·rw[Ha ny]at g
     refine Or.inr (Or.inr (Or.inl ⟨rfl,O',O',?_⟩));simp only[c8,e];exact g
    ·subst ny
     rw[Ka (ma _),Fc]at g;exact Or.inr (Or.inl ⟨rfl,rfl,(ta g).symm⟩)
    ·rw[Ea K']at g;cases g
  ·rw[RE hj]at g
   obtain⟨g1,g2⟩:=N5 g;obtain⟨g3,g4⟩:=N5 g2;obtain⟨_,g5⟩:=N5 g4;exact Or.inr (Or.inr (Or.inr ⟨hj,g1,g3,g5⟩))
 refine⟨λj=>?_,⟨?_,?_,?_,?_,?_⟩⟩
 ·rw[jZ (Y3 ht j)];exact h.tm j
 ·intro j s1 c g
  simp only[e8]at g;cases hb:za j s<;>simp only[hb,cond_true,cond_false]at g
  ·rw[CW _ (F7.1 hb)];exact h.sat.site _ _ _ (OW (OW (OW g).2).2).2
  ·simp only[xa,Qa]at g
   rw[BO.1 hb,BZ,F0,<-g.1]
 ·intro j t c g
  rcases hg j t c g with⟨rfl,rfl,rfl⟩|⟨rfl,rfl,rfl⟩|⟨rfl,h0,h1,g2⟩|⟨h0,h1,h2,g2⟩
  ·rw[BZ,F0]
   simp only[BC.c9,lz];simp[Own.n9,B5.new,Own.j7,B5.u5]
  ·rw[BZ,F1,if_pos rfl]
   exact(WB (λhe=>hk (h.sat.inj _ _ _ _ _ _ r2 r0 he).1.symm) (h.sat.old _ _ _ r2)).trans (h.sat.c9 _ _ _ r2)
  ·obtain⟨t',rfl⟩:∃t',t=t'+1:=⟨t-1,O'⟩
   rw[BZ,F1,if_neg O'];have hb:c.c9 (DP σ j F) j=c.c9 σ key:=by
    obtain⟨_,_,_,_,g3⟩:=JL g2;obtain⟨_,_,_,_,_,rfl⟩:=g3 t' rfl;rfl
   rw[hb];exact(WB (λhe=>absurd (h.sat.inj _ _ _ _ _ _ g2 r0 he).2 O') (h.sat.old _ _ _ g2)).trans (h.sat.c9 _ _ _ g2)
  ·rw[CW _ h0,dW (Dj _ _ _ g2).1 h0]
   exact(WB (λhe=>h1 (h.sat.inj _ _ _ _ _ _ g2 r0 he).1) (h.sat.old _ _ _ g2)).trans (h.sat.c9 _ _ _ g2)
 ·intro j t c g
  rcases hg j t c g with⟨rfl,rfl,rfl⟩|⟨rfl,rfl,rfl⟩|⟨rfl,h0,h1,g2⟩|⟨h0,h1,h2,g2⟩
  ·rw[BZ,F0]
   simp[Own.n9,B5.new,Own.j7,B5.u5]
  ·rw[BZ,F1,if_pos rfl]
   exact Ga (h.sat.old _ _ _ r2) (WC _)
  ·obtain⟨t',rfl⟩:∃t',t=t'+1:=⟨t-1,O'⟩
   rw[BZ,F1,if_neg O'];exact Ga (h.sat.old _ _ _ g2) (WC _)
  ·rw[CW _ h0]
   exact Ga (h.sat.old _ _ _ g2) (WC _)
 ·have hold:∀j t c,c8 ((s,(σ key 0).1,.mx (rows++[some (z,es)]))::w5 key (w5 k2 (w5 ky M))) j t=some c->(j=s/\t=0)\/∃j0 t0 c0,c8 M j0 t0=some c0/\DP σ s F j t=σ j0 t0/\((j0=k2/\t0=0/\j=s/\t=rows.length+1)\/(j0=key/\t0=t/\j=s)\/(j0=j/\t0=t/\j≠key/\j≠k2)):=by
   intro j t c g;rcases hg j t c g with⟨rfl,rfl,rfl⟩|⟨rfl,rfl,rfl⟩|⟨rfl,h0,h1,g2⟩|⟨h0,h1,h2,g2⟩
   ·exact Or.inl ⟨rfl,rfl⟩
   ·exact Or.inr ⟨_,_,_,r2,by rw[BZ,F1,if_pos rfl],Or.inl ⟨rfl,rfl,rfl,rfl⟩⟩
   ·obtain⟨t',rfl⟩:∃t',t=t'+1:=⟨t-1,O'⟩
    exact Or.inr ⟨_,_,_,g2,by rw[BZ,F1,if_neg O'],Or.inr (Or.inl ⟨rfl,rfl,rfl⟩)⟩
   ·exact Or.inr ⟨_,_,_,g2,by rw[CW _ h0],Or.inr (Or.inr ⟨rfl,rfl,h1,h2⟩)⟩
  have pt:∀j0 t0 c0,c8 M j0 t0=some c0->DP σ s F s 0≠σ j0 t0:=by
   intro j0 t0 c0 g he;rw[BZ,F0]at he;have:=h.sat.old _ _ _ g
   rw[<-he]at this;exact absurd this (Jb _)
  intro j t j' t' c c' g g' hj;rcases hold j t c g with⟨rfl,rfl⟩|⟨j0,t0,c0,a1,a2,a3⟩<;>rcases hold j' t' c' g' with⟨rfl,rfl⟩|⟨j1,t1,c1,b1,b2,b3⟩
  ·exact⟨rfl,rfl⟩
  ·rw[b2]at hj;exact absurd hj (pt _ _ _ b1)
  ·rw[a2]at hj;exact absurd hj.symm (pt _ _ _ a1)
  ·rw[a2,b2]at hj
   obtain⟨q1,q2⟩:=h.sat.inj _ _ _ _ _ _ a1 b1 hj;rcases a3 with⟨x1,x2,x3,x4⟩|⟨x1,x2,x3⟩|⟨x1,x2,x3,x4⟩<;>rcases b3 with⟨y1,y2,y3,y4⟩|⟨y1,y2,y3⟩|⟨y1,y2,y3,y4⟩
   ·exact⟨x3.trans y3.symm,x4.trans y4.symm⟩
   ·exact absurd (y1.symm.trans (q1.symm.trans x1)) hk
   ·exact absurd (y1.symm.trans (q1.symm.trans x1)) y4
   ·exact absurd (x1.symm.trans (q1.trans y1)) hk
   ·exact⟨x3.trans y3.symm,x2.symm.trans (q2.trans y2)⟩
   ·exact absurd (y1.symm.trans (q1.symm.trans x1)) y3
   ·exact absurd (x1.symm.trans (q1.trans y1)) x4
   ·exact absurd (x1.symm.trans (q1.trans y1)) x3
   ·exact⟨x1.symm.trans (q1.trans y1),x2.symm.trans (q2.trans y2)⟩
 ·intro j t c g hw
  rcases hg j t c g with⟨rfl,rfl,rfl⟩|⟨rfl,rfl,rfl⟩|⟨rfl,h0,h1,g2⟩|⟨h0,h1,h2,g2⟩
  ·rw[BZ,F0];exact h.sat.low _ _ _ r0 rfl
  ·rw[BZ,F1,if_pos rfl];exact h.sat.low _ _ _ r2 rfl
  ·obtain⟨t',rfl⟩:∃t',t=t'+1:=⟨t-1,O'⟩
   rw[BZ,F1,if_neg O'];exact h.sat.low _ _ _ g2 hw
  ·rw[CW _ h0];exact h.sat.low _ _ _ g2 hw
theorem I3(k:IntKind)(n:Int):BD σ (.int k n) = .int k n:=rfl
theorem I2(b:Bool):BD σ (.bool b) = .bool b:=rfl
theorem IO(l:Bool)(es:v_):BD σ (.sl l es) = .sl l es:=rfl
theorem DZ(k t z o n:Nat):BD σ (.row k t z o n) = .row (σ k t).1 (σ k t).2 z o n:=rfl
theorem FD(k t i j:Nat):BD σ (.ptr k t i j) = .ptr (σ k t).1 (σ k t).2 i j:=rfl
theorem rJ(k t:Nat):BD σ (.mp k t) = .mp (σ k t).1 (σ k t).2:=rfl
theorem LL(cs:w_):BD σ (.z7 cs) = .z7 cs:=rfl
theorem GU:BD σ .nil = .nil:=rfl
theorem KM(cs:w_):BD σ (.agg cs) = .agg (cs.map (BA σ)):=rfl
theorem rI(v:Value):BD σ (.y8 v) = .y8 v:=rfl
theorem cD(p:Bool)(f g:Nat)(cs:w_):BD σ (.fn p f g cs) = .fn p f g (cs.map (BA σ)):=rfl
theorem KN(cs:w_):BD σ (.j5 cs) = .j5 (cs.map (BN σ)):=rfl
def B9.res(own:Own):B9->AV×Own
 |.val v=>(v,own)
 |.new s b f=>(f (own.j7 s),own.put s ((own s).new b))
 |.Ae s b f=>(f (own.j7 s),own.put s ((own s).new b))
 |.cn v o=>(v,o)
 |.Bp s v o=>(v,o.put s (own s))
 |.u5 s x=>(.j5 [],own.put s x)
 |.tn s x v=>(v,own.put s x)
theorem lA(st:St)(d:Option Nat)(E:B9):st.app d E=⟨(st.dst d (E.res st.own).1).tm,(E.res st.own).2⟩:=by
 cases E<;>cases d<;>rfl
def BR(L:Lib)(tm:Tm)(b9:u_)(K:AV->Mem->Prop)(op:EF)(st:St):Prop :=
 ∃E σ' v M',(∀c,j4 (CZ L c) b9 st.ev st.own op=some E)/\K v M'/\(E.res st.own).1=BD σ' v/\RX σ' tm M' ⟨st.tm,(E.res st.own).2⟩
theorem BR.val{L:Lib}{b9:u_}{K:AV->Mem->Prop}{op:EF}(h:RX σ tm M st)(v:AV)(he:∀c,j4 (CZ L c) b9 st.ev st.own op=some (.val (BD σ v)))(hk:K v M):BR L tm b9 K op st :=
 ⟨_,σ,v,M,he,hk,rfl,h⟩
variable {L:Lib} {b9:u_} {K:AV->Mem->Prop}
theorem AfQ{x:AL}(hr:RX σ tm M st)(h:XE L tm M b9 K (.q9 x)):BR L tm b9 K (.q9 x) st:=by
 simp only[XE]at h;obtain⟨h1,h2⟩:=gB h;exact BR.val hr _ (λC=>by simp only[j4,hr.ev rfl h1]) h2
theorem AfZ{s z:Nat}(hr:RX σ tm M st)(h:XE L tm M b9 K (.ak s z)):BR L tm b9 K (.ak s z) st:=by
 simp only[XE]at h;cases ff:FG s<;>simp only[ff,cond_true,cond_false]at h;obtain⟨k,h1,h2,h3⟩:=I8 h;refine⟨_,_,_,_,λC=>rfl,h3,?_,hr.iu h1 h2 (.rw z []) trivial rfl (λ_=>ff)⟩;simp only[B9.res,DZ,FD,BZ]
theorem AfT{c a b:AL}(hr:RX σ tm M st)(h:XE L tm M b9 K (.pick c a b)):BR L tm b9 K (.pick c a b) st:=by
 simp only[XE]at h;split at h
 ·rename_i e
  obtain⟨h1,h2⟩:=gB h;exact BR.val hr _ (λC=>by simp only[j4,hr.ev e G',hr.ev rfl h1,I3,I2,IO,DZ,FD,LL,GU,KM,KN]) h2
 ·rename_i e
  obtain⟨h1,h2⟩:=gB h;exact BR.val hr _ (λC=>by simp only[j4,hr.ev e G',hr.ev rfl h1,I3,I2,IO,DZ,FD,LL,GU,KM,KN]) h2
 ·exact h.elim
theorem AkG{op:BinOp}{k k':IntKind}{a b:Int}{v:AV}(h:DM op k a k' b=some v):BD σ v=v:=by
 cases op<;>simp only[DM]at h<;>split at h<;>first|(obtain rfl:=ta h;rfl)|cases h
theorem Alh{k k':IntKind}(h:kq k k'=true):k=k':=by simpa [kq]using h
theorem Agl{op:BinOp}{k k':IntKind}{a b:Int}{K:AV->Prop}(h:lC op k a k' b K):∃v,DM op k a k' b=some v/\K v:=by
 have key:∀(p q:Prop)[Decidable p](A B:Prop)(c:Bool),(¬p->q)->AF p q A B->(p/\A)\/(¬p/\B):=by
  intro p q _ A B _ hq hc;by_cases hp:p
  ·exact Or.inl ⟨hp,hc.1 hp⟩
  ·exact Or.inr ⟨hp,hc.2 (hq hp)⟩
 cases op;all_goals try (exact h)
 all_goals (
  simp only[lC]at h;cases hk:kq k k'<;>simp only[hk,cond_true,cond_false]at h;obtain rfl:=Alh hk;simp only[DM,if_true])
 ·rcases key (a=b) _ _ _ true (λe=>e) h with⟨h1,h2⟩|⟨h1,h2⟩
  ·exact⟨_,rfl,by rw[show(a == b)=true by simpa using h1];exact h2⟩
  ·exact⟨_,rfl,by rw[show(a == b)=false by simpa using h1];exact h2⟩
 ·rcases key (a≠b) _ _ _ true (λe=>O') h with⟨h1,h2⟩|⟨h1,h2⟩
  ·exact⟨_,rfl,by rw[show(a != b)=true by simpa using h1];exact h2⟩
  ·exact⟨_,rfl,by rw[show(a != b)=false by simpa using h1];exact h2⟩
 ·rcases key (a<b) _ _ _ true (λe=>O') h with⟨h1,h2⟩|⟨h1,h2⟩
  ·exact⟨_,rfl,by simpa [h1]using h2⟩
  ·exact⟨_,rfl,by simpa [h1]using h2⟩
 ·rcases key (a<=b) _ _ _ true (λe=>O') h with⟨h1,h2⟩|⟨h1,h2⟩
  ·exact⟨_,rfl,by simpa [h1]using h2⟩
  ·exact⟨_,rfl,by simpa [h1]using h2⟩
 ·rcases key (b<a) _ _ _ true (λe=>O') h with⟨h1,h2⟩|⟨h1,h2⟩
  ·exact⟨_,rfl,by simpa [h1]using h2⟩
  ·exact⟨_,rfl,by simpa [h1]using h2⟩
 ·rcases key (b<=a) _ _ _ true (λe=>O') h with⟨h1,h2⟩|⟨h1,h2⟩
  ·exact⟨_,rfl,by simpa [h1]using h2⟩
  ·exact⟨_,rfl,by simpa [h1]using h2⟩
theorem Afx{op:BinOp}{x y:AL}(hr:RX σ tm M st)(h:XE L tm M b9 K (.bin op x y)):BR L tm b9 K (.bin op x y) st:=by
 simp only[XE]at h;split at h
 ·rename_i k a k' b e1 e2
  obtain⟨v,hv,hk⟩:=Agl h;exact BR.val hr v (λC=>by
   simp only[j4,hr.ev e1 G',hr.ev e2 G',I3,I2,IO,DZ,FD,LL,GU,KM,KN,hv,sa];exact congrArg some (congrArg B9.val (AkG (σ:=σ) hv).symm)) hk
 ·exact h.elim
theorem Afw{ne:Bool}{x y:AL}(hr:RX σ tm M st)(h:XE L tm M b9 K (.beq ne x y)):BR L tm b9 K (.beq ne x y) st:=by
 simp only[XE]at h;split at h
 ·rename_i a b e1 e2
  rw[SB]at h;exact BR.val hr _ (λC=>by
   simp only[j4,hr.ev e1 G',hr.ev e2 G',I3,I2,IO,DZ,FD,LL,GU,KM,KN];cases ne<;>rfl) h
 ·exact h.elim
theorem AfY{op:UnOp}{x:AL}(hr:RX σ tm M st)(h:XE L tm M b9 K (.un op x)):BR L tm b9 K (.un op x) st:=by
 simp only[XE]at h;split at h
 ·rename_i k n e1
  obtain⟨v,hv,hk⟩:=h;refine BR.val hr v (λC=>?_) hk;simp only[j4,hr.ev e1 G',I3,I2,IO,DZ,FD,LL,GU,KM,KN,hv,sa];cases op<;>simp only[U0,xa,reduceCtorEq]at hv<;>subst hv<;>rfl
 ·rename_i b e1
  split at h
  ·rw[SB]at h
   exact BR.val hr _ (λC=>by simp only[j4,hr.ev e1 G',I3,I2,IO,DZ,FD,LL,GU,KM,KN,U0,sa]) h
  ·exact h.elim
 ·exact h.elim
theorem AfB{k:IntKind}{x:AL}(hr:RX σ tm M st)(h:XE L tm M b9 K (.conv k x)):BR L tm b9 K (.conv k x) st:=by
 simp only[XE]at h;split at h
 ·rename_i k' n e1
  exact BR.val hr _ (λC=>by simp only[j4,hr.ev e1 G',I3,I2,IO,DZ,FD,LL,GU,KM,KN]) h.h
 ·exact h.elim
theorem Afy{s:Nat}{x:AL}(hr:RX σ tm M st)(h:XE L tm M b9 K (.box s x)):BR L tm b9 K (.box s x) st:=by
 simp only[XE]at h;obtain⟨h0,cs,hc,h⟩:=gA h;obtain⟨k,h1,h2,h3⟩:=I8 h;refine⟨.new s (BC.c9 σ k (.bx cs)) (λt=>.ptr s t 0 0),_,_,_,λC=>?_,h3,?_,hr.iu h1 h2 (.bx cs) trivial (Yu (Tb h2 x) hc) (λh=>nomatch h)⟩
 ·simp only[j4,hr.ev rfl h0,R1 hc,Ia,BC.c9]
 ·simp only[B9.res,DZ,FD,BZ]
theorem Afr{s:Nat}{z:w_}(hr:RX σ tm M st)(h:XE L tm M b9 K (.alloc s z)):BR L tm b9 K (.alloc s z) st:=by
 simp only[XE]at h;cases hd:E1 z<;>simp only[hd,cond_true,cond_false]at h;obtain⟨k,h1,h2,h3⟩:=I8 h;refine⟨.new s (BC.c9 σ k (.bx z)) (λt=>.ptr s t 0 0),_,_,_,λC=>?_,h3,?_,hr.iu h1 h2 (.bx z) trivial (lT hd) (λh=>nomatch h)⟩
 ·simp only[j4,BC.c9,KZ hd]
 ·simp only[B9.res,DZ,FD,BZ]
theorem iT{cs ds:w_}{off n:Nat}(h:part cs off n=some ds):part (cs.map (BA σ)) off n=some (ds.map (BA σ)):=by
 simp only[part]at h⊢;split at h
 ·rename_i hl
  rw[if_pos (by simpa using hl)];obtain rfl:=ta h;rw[Jc,Ic]
 ·cases h
theorem Te{v:AV}{K:AV->Prop}(h:fF v K):v ≠ .any/\BD σ v=BA σ v/\K v:=by
 cases v<;>simp only[fF]at h<;>first|exact h.elim|exact⟨G',rfl,h⟩
theorem TE(σ:GJ){agg:Bool}{ds:w_}{K:AV->Prop}(h:ti agg ds K):∃v,NC agg (ds.map (BA σ))=some (BD σ v)/\K v:=by
 cases agg
 ·simp only[ti]at h
  split at h
  ·rename_i c
   obtain⟨_,h1,h2⟩:=Te (σ:=σ) h;exact⟨c,by rw[h1];rfl,h2⟩
  ·exact h.elim
 ·exact⟨.agg ds,rfl,h⟩
theorem Adi{cs vs:w_}{j:Nat}:(splice cs j vs).map (BA σ)=splice (cs.map (BA σ)) j (vs.map (BA σ)):=by
 simp only[splice,Oc,Jc,Ic,Ia]
theorem Tj(hr:RX σ tm M st):∀{ps:List (Nat×Nat×AL)}{cells:w_}{K:w_->Prop},nN tm ps cells K->∃cs,fill (cells.map (BA σ)) (ps.map λp=>(p.1,p.2.1,st.ev p.2.2))=some (cs.map (BA σ))/\K cs
 |[],cells,K,h=>⟨cells,rfl,h⟩
 |p::r,cells,K,h=>by
  obtain⟨h0,vs,hc,h⟩:=gA (show fC (ex tm p.2.2) λvs=>bif za vs.length p.2.1 then bif Pb (p.1+p.2.1) cells.length then fL (splice cells p.1 vs) λcells=>nN tm r cells K else False else False from h);cases hz:za vs.length p.2.1<;>simp only[hz,cond_true,cond_false]at h;have hl:Pb (p.1+p.2.1) cells.length=true:=by
   cases hl:Pb (p.1+p.2.1) cells.length
   ·rw[hl]at h;exact h.elim
   ·rfl
  rw[hl]at h;simp only[cond_true,JH]at h;obtain⟨cs,h1,h2⟩:=Tj hr h;refine⟨cs,?_,h2⟩;simp only[va,fill,hr.ev rfl h0,R1 hc,Ia];rw[if_pos ⟨BO.1 hz,Kb hl⟩,<-Adi];exact h1
theorem AfA{z:w_}{ps:List (Nat×Nat×AL)}(hr:RX σ tm M st)(h:XE L tm M b9 K (.build z ps)):BR L tm b9 K (.build z ps) st:=by
 simp only[XE]at h;cases hd:E1 z<;>simp only[hd,cond_true,cond_false]at h;obtain⟨cs,h1,h2⟩:=Tj hr h;refine BR.val hr (.agg cs) (λC=>?_) h2;rw[KZ hd]at h1;simp only[j4,h1];rfl
theorem Sy:∀l:List AL,SA tm l=l.map (ex tm)
 |[]=>rfl
 |x::r=>by rw[SA,Sy r];rfl
theorem lS:∀{es:v_},VX es=true->∀e∈es,E1 e=true
 |e0::r,h,e,he=>by
  simp only[VX]at h;cases h1:E1 e0<;>simp only[h1,cond_true,cond_false]at h
  ·cases h
  ·rcases Da.1 he with rfl|he
   ·exact h1
   ·exact lS h e he
theorem wI{es:v_}(h:∀e∈es,E1 e=true):(es.map λcs=>cs.map (BA σ))=es:=by
 conv=>rhs;rw[<-Dc es]
 exact Na λe he=>KZ (h e he)
theorem Alv{es:v_}{K:Nat->Prop}(h:pB es K):K es.length:=by
 unfold pB at h;split at h<;>exact h
theorem lF(hr:RX σ tm M st){z:Nat}:∀{l:List AL}{K:v_->Prop},dX tm z l K->∃es,l.mapM (λx=>cellsOf (st.ev x))=some (es.map λcs=>cs.map (BA σ))/\(∀e∈es,e.length=z)/\(∀k,J4 k tm=false->UV k es=false)/\K es
 |[],K,h=>⟨[],rfl,(λe he=>by cases he),λ_ _=>rfl,h⟩
 |x::r,K,h=>by
  obtain⟨h0,cs,hc,h⟩:=gA (show fC (ex tm x) λcs=>bif za cs.length z then dX tm z r λes=>K (cs::es)else False from h);cases hz:za cs.length z<;>simp only[hz,cond_true,cond_false]at h;obtain⟨es,h1,h2,h4,h3⟩:=lF hr h;refine⟨cs::es,?_,λe he=>?_,λk hk=>?_,h3⟩
  ·rw[na,h1,hr.ev rfl h0,R1 hc];rfl
  ·rcases Da.1 he with rfl|he
   ·exact BO.1 hz
   ·exact h2 e he
  ·simp only[UV,Yu (Tb hk x) hc,cond_false,h4 k hk]
theorem evL(hr:RX σ tm M st){xs:List AL}(h:∀v∈SA tm xs,v ≠ .any):xs.map st.ev=(SA tm xs).map (BD σ):=by
 rw[Sy]at h⊢;rw[zb];exact Na λx hx=>hr.ev rfl (h _ (List.mem_map_of_mem hx))
theorem Afz{s z:Nat}{ps:List AL}(hr:RX σ tm M st)(h:XE L tm M b9 K (.b8 s z ps)):BR L tm b9 K (.b8 s z ps) st:=by
 simp only[XE]at h;cases ff:FG s<;>simp only[ff,cond_true,cond_false]at h;obtain⟨es,g1,g2,g3,h⟩:=lF hr h;obtain⟨k,h1,h2,h3⟩:=I8 (Alv h);have key:∀c:BC,c.flat->J3 k c=false->c.c9 σ k=⟨z,es.map λcs=>cs.map (BA σ)⟩->K (.row k 0 z 0 es.length) ((k,s,c)::M)->BR L tm b9 K (.b8 s z ps) st:=by
  intro c hf hc hb hk;refine⟨.new s (c.c9 σ k) (λt=>.row s t z 0 es.length),_,_,_,λC=>?_,hk,?_,hr.iu h1 h2 c hf hc (λ_=>ff)⟩
  ·simp only[j4,g1,hb]
   rw[if_pos (λe he=>by obtain⟨e',jb,rfl⟩:=List.mem_map.1 he;simpa using g2 e' jb)];simp only[Ia]
  ·simp only[B9.res,DZ,BZ]
 cases hd:VX es<;>simp only[hd,cond_true,cond_false]at h3
 ·exact key (.bs z es) trivial (g3 k h2) rfl h3
 ·exact key (.rw z es) trivial rfl (by simp only[BC.c9];rw[wI (lS hd)]) h3
theorem AfK{z:Nat}{ps:List AL}(hr:RX σ tm M st)(h:XE L tm M b9 K (.lit z ps)):BR L tm b9 K (.lit z ps) st:=by
 simp only[XE]at h;obtain⟨es,g1,g2,g3,h⟩:=lF hr h;cases hd:(VX es&&es.all λe=>e.all YN)<;>simp only[hd,cond_true,cond_false]at h;rw[Oa]at hd;rw[wI (lS hd.1)]at g1;exact BR.val hr (.sl false es) (λC=>by
  simp only[j4,g1,IO];rw[if_pos λe he=>⟨g2 e he,λc hc=>Nb.1 (Nb.1 hd.2 e he) c hc⟩]) h
theorem AfD{x:AL}{off:Nat}(hr:RX σ tm M st)(h:XE L tm M b9 K (.o4 x off)):BR L tm b9 K (.o4 x off) st:=by
 simp only[XE]at h;split at h
 ·rename_i key t i j e
  exact BR.val hr _ (λC=>by simp only[j4,hr.ev e G',I3,I2,IO,DZ,FD,LL,GU,KM,KN]) h
 ·rename_i cs e
  rw[JH]at h;exact BR.val hr _ (λC=>by simp only[j4,hr.ev e G',I3,I2,IO,DZ,FD,LL,GU,KM,KN]) h
 ·exact h.elim
theorem AfE{x:AL}{off n:Nat}{agg:Bool}(hr:RX σ tm M st)(h:XE L tm M b9 K (.og x off n agg)):BR L tm b9 K (.og x off n agg) st:=by
 simp only[XE]at h;split at h
 ·rename_i cs e
  split at h
  ·rename_i ds hp
   rw[JH]at h;obtain⟨v,h1,h2⟩:=TE σ h;exact BR.val hr v (λC=>by simp only[j4,hr.ev e G',KM,iT hp,h1,sa]) h2
  ·exact h.elim
 ·exact h.elim
theorem AfG{arr:Option Nat}{z:Nat}{x i:AL}(hr:RX σ tm M st)(h:XE L tm M b9 K (.u4 arr z x i)):BR L tm b9 K (.u4 arr z x i) st:=by
 simp only[XE]at h;split at h
 ·rename_i kd n e1
  split at h
  ·rename_i len key t i' j e2
   obtain⟨h1,h2⟩:=h;exact BR.val hr _ (λC=>by simp only[j4,hr.ev e1 G',hr.ev e2 G',I3,I2,IO,DZ,FD,LL,GU,KM,KN];rw[if_pos h1]) h2
  ·rename_i len cs e2
   obtain⟨h1,h2⟩:=h;rw[JH]at h2;exact BR.val hr _ (λC=>by simp only[j4,hr.ev e1 G',hr.ev e2 G',I3,I2,IO,DZ,FD,LL,GU,KM,KN];rw[if_pos h1]) h2
  ·rename_i key t z' off len e2
   cases hz:za z' z<;>simp only[hz,cond_true,cond_false]at h;obtain⟨h1,h2⟩:=h;exact BR.val hr _ (λC=>by simp only[j4,hr.ev e1 G',hr.ev e2 G',I3,I2,IO,DZ,FD,LL,GU,KM,KN];rw[if_pos ⟨h1.1,h1.2,BO.1 hz⟩]) h2
  ·rename_i q es e2
   obtain⟨h1,cs,h2,h3,h4⟩:=h;exact BR.val hr _ (λC=>by simp only[j4,hr.ev e1 G',hr.ev e2 G',I3,I2,IO,DZ,FD,LL,GU,KM,KN,h2];rw[if_pos h1,if_pos h3]) h4
  ·exact h.elim
 ·exact h.elim
theorem WJ{s:Nat}{own:Own}:∀{b9:u_},O6 s b9=true->own.u7 b9 s=own s
 |[],_=>rfl
 |b::r,h=>by
  have hm:LA s (b::r)=false:=by simpa [O6]using h
  have:∀l:u_,LA s l=false->own.u7 l s=own s:=by
   intro l;induction l with
   |nil=>intro _;rfl
   |cons b r ih=>
    intro h;simp only[LA]at h;cases hb:za s b<;>simp only[hb,cond_true,cond_false]at h
    ·simp only[Own.u7]
     rw[if_neg (F7.1 hb)];exact ih h
    ·cases h
  exact this _ hm
theorem qC{s:Nat}{own:Own}(hs:FG s=true):∀{b9:u_},WK b9=true->own.u7 b9 s=own s
 |[],_=>rfl
 |b::r,h=>by
  simp only[WK]at h;cases hb:FG b<;>simp only[hb,cond_true,cond_false]at h
  ·have q6:s≠b:=λe=>by rw[e,hb]at hs;cases hs
   show(if s=b then _ else own.u7 r s)=own s;rw[if_neg q6];exact qC hs h
  ·cases h
theorem AfI{agg:Bool}{n:Nat}{x:AL}(hr:RX σ tm M st)(h:XE L tm M b9 K (.ld agg n x)):BR L tm b9 K (.ld agg n x) st:=by
 simp only[XE]at h;split at h
 ·rename_i key t i j e
  split at h
  ·rename_i s c hm
   have hs:=hr.sat.site _ _ _ hm;split at h
   ·cases hb:O6 s b9<;>simp only[hb,cond_true,cond_false]at h
    have ah:=hr.sat.c9 _ _ _ (EQ hm);rw[hs]at ah;split at h
    ·rename_i cs
     cases hi:za i 0<;>simp only[hi,cond_true,cond_false]at h;obtain rfl:=BO.1 hi;split at h
     ·rename_i ds hp
      rw[JH]at h;obtain⟨v,h1,h2⟩:=TE σ h;exact BR.val hr v (λC=>by
       simp only[j4,hr.ev e G',FD,Own.rq,Own.get,hs];rw[WJ hb,ah];simp only[BC.c9,Ob,iT hp,h1,sa]) h2
     ·exact h.elim
    ·rename_i z es
     obtain⟨cs,ds,g1,g2,h⟩:=h;rw[JH]at h;cases hd:E1 ds<;>simp only[hd,cond_true,cond_false]at h;obtain⟨v,h1,h2⟩:=TE σ h;rw[KZ hd]at h1;exact BR.val hr v (λC=>by
      simp only[j4,hr.ev e G',FD,Own.rq,Own.get,hs];rw[WJ hb,ah];simp only[BC.c9,g1,g2,h1,sa]) h2
    ·rename_i z es
     split at h
     ·rename_i cs g1
      split at h
      ·rename_i ds hp
       rw[JH]at h;obtain⟨v,h1,h2⟩:=TE σ h;exact BR.val hr v (λC=>by
        simp only[j4,hr.ev e G',FD,Own.rq,Own.get,hs];rw[WJ hb,ah];simp only[BC.c9,ec,g1,sa,iT hp,h1]) h2
      ·exact h.elim
     ·exact h.elim
    ·rename_i rows
     cases hj:za j 0<;>simp only[hj,cond_true,cond_false]at h;cases hn:za n 1<;>simp only[hn,cond_true,cond_false]at h;obtain rfl:=BO.1 hj;obtain rfl:=BO.1 hn;obtain⟨r,g1,h⟩:=h;have fin:∀c:AV,(CP σ key 0 rows)[i]?=some [BA σ c]->ti agg [c] (λv=>K v M)->BR L tm b9 K (.ld agg 1 x) st:=by
      intro c hc h;obtain⟨v,h1,h2⟩:=TE σ h;have hp:part [BA σ c] 0 1=some [BA σ c]:=by simp[part]
      exact BR.val hr v (λC=>by
       simp only[j4,hr.ev e G',FD,Own.rq,Own.get,hs];rw[WJ hb,ah];simp only[BC.c9,hc,hp];simp only[va,Ba]at h1;simp only[h1,sa]) h2
     split at h
     ·rename_i z es
      exact fin _ (by rw[I1,g1];simp[BA]) h
     ·exact fin _ (by rw[I1,g1];simp[BA]) h
    ·exact h.elim
    ·exact h.elim
   ·rename_i i'
    split at h
    ·rename_i rows
     obtain⟨z,es,g0,cs,ds,g1,g2,h⟩:=h;rw[JH]at h;cases hd:E1 ds<;>simp only[hd,cond_true,cond_false]at h;obtain⟨v,h1,h2⟩:=TE σ h;rw[KZ hd]at h1;have ah:=hr.sat.c9 key (i'+1) (.rw z es) (by simp[c8,hm,g0]);exact BR.val hr v (λC=>by
      simp only[j4,hr.ev e G',FD,Own.rq,Own.get,Own.u7];rw[ah];simp only[BC.c9,g1,g2,h1,sa]) h2
    ·rename_i rows b r
     cases hb:WK (b::r)<;>simp only[hb,cond_true,cond_false]at h;obtain⟨z,es,g0,cs,ds,g1,g2,h⟩:=h;rw[JH]at h;cases hd:E1 ds<;>simp only[hd,cond_true,cond_false]at h;obtain⟨v,h1,h2⟩:=TE σ h;rw[KZ hd]at h1;have g':c8 M key (i'+1)=some (.rw z es):=by simp[c8,hm,g0]
     have ah:=hr.sat.c9 key (i'+1) (.rw z es) g';have ff:=hr.sat.low key (i'+1) _ g' rfl;exact BR.val hr v (λC=>by
      simp only[j4,hr.ev e G',FD,Own.rq,Own.get];rw[qC ff hb,ah];simp only[BC.c9,g1,g2,h1,sa]) h2
    ·exact h.elim
  ·exact h.elim
 ·rename_i cs e
  split at h
  ·rename_i ds hp
   rw[JH]at h;cases hd:E1 ds<;>simp only[hd,cond_true,cond_false]at h;obtain⟨v,h1,h2⟩:=TE σ h;rw[KZ hd]at h1;exact BR.val hr v (λC=>by simp only[j4,hr.ev e G',LL,hp,h1,sa]) h2
  ·exact h.elim
 ·exact h.elim
theorem uK{n:Nat}{x v:AL}(hr:RX σ tm M st)(h:XE L tm M b9 K (.st n x v)):BR L tm b9 K (.st n x v) st:=by
 simp only[XE,sH]at h;split at h
 ·rename_i key t i j e
  obtain⟨h0,vs,hc,h5⟩:=gA h;clear h;cases hn:za vs.length n<;>simp only[hn,cond_true,cond_false]at h5;have wi:=BO.1 hn;split at h5
  ·rename_i s c hm
   have hs:=hr.sat.site _ _ _ hm;split at h5
   ·have ah:=hr.sat.c9 _ _ _ (EQ hm)
    rw[hs]at ah;split at h5
    ·rename_i cs
     cases hi:za i 0<;>simp only[hi,cond_true,cond_false]at h5;obtain rfl:=BO.1 hi;have hl:Pb (j+vs.length) cs.length=true:=by
      cases hl:Pb (j+vs.length) cs.length
      ·rw[hl]at h5;exact h5.elim
      ·rfl
     rw[hl]at h5;simp only[cond_true,JH]at h5;refine⟨.cn (.j5 []) (st.own.put s ((st.own s).u5 (σ key 0).2 (some (BC.c9 σ key (.bx (splice cs j vs)))))),σ,_,_,λC=>?_,h5,rfl,hr.Jm hm trivial _ trivial (λh=>nomatch h)⟩;simp only[j4,hr.ev e G',FD,hr.ev rfl h0,R1 hc,Ia];rw[if_pos wi];simp only[Own.py,Own.get,hs,ah,BC.c9,Ob,Ia];rw[if_pos (Kb hl)];simp only[sa,List.set_cons_zero,Adi];have:(splice cs j vs).length=cs.length:=by
      have:=Kb hl
      simp only[splice,List.length_append,List.length_take,List.length_drop];omega
     rw[this]
    ·rename_i z es
     cases hd:E1 vs<;>simp only[hd,cond_true,cond_false]at h5;obtain⟨cs,g1,g2,h5⟩:=h5;refine⟨.cn (.j5 []) (st.own.put s ((st.own s).u5 (σ key 0).2 (some (BC.c9 σ key (.rw z (es.set i (splice cs j vs))))))),σ,_,_,λC=>?_,h5,rfl,hr.Jm hm trivial _ trivial (λ_=>rfl)⟩;simp only[j4,hr.ev e G',FD,hr.ev rfl h0,R1 hc,KZ hd];rw[if_pos wi];simp only[Own.py,Own.get,hs,ah,BC.c9,g1];rw[if_pos g2];rfl
    ·exact h5.elim
    ·rename_i rows
     split at h5
     ·rename_i db z m
      cases jy:za key db<;>simp only[jy,cond_true,cond_false]at h5;cases fh:OO key tm<;>simp only[fh,cond_true,cond_false]at h5;cases vp:ML key M<;>simp only[vp,cond_true,cond_false]at h5;cases hj:za j 0<;>simp only[hj,cond_true,cond_false]at h5;obtain rfl:=BO.1 hj;split at h5
      ·rename_i s2 z' es ji
       cases hz:za z z'<;>simp only[hz,cond_true,cond_false]at h5;obtain rfl:=BO.1 hz;rw[N0]at h5;obtain⟨rfl,hi,h5⟩:=h5;have hlen:(CP σ key 0 rows)[i]?=some ((CP σ key 0 rows)[i]'(by rw[HG];exact hi)):=zE _;have mb:((CP σ key 0 rows)[i]'(by rw[HG];exact hi)).length=1:=by
        have:=I1 (σ:=σ) (k:=key) rows 0 i
        rw[hlen,zE hi]at this;simp only[sa,xa]at this;rw[this];split<;>rfl
       refine⟨.cn (.j5 []) (st.own.put s ((st.own s).u5 (σ key 0).2 (some ⟨1,(CP σ key 0 rows).set i [.row (σ db 0).1 (σ db 0).2 z 0 es.length]⟩))),_,_,_,λC=>?_,h5,rfl,hr.Dv hm (Or.inl rfl) ji (F7.1 jy) fh vp hi⟩;simp only[j4,hr.ev e G',FD,hr.ev rfl h0,R1 hc,Ia];rw[if_pos wi];simp only[Own.py,Own.get,hs,ah,BC.c9,hlen,va,Ba,rb,ob,BA];rw[if_pos O'];simp only[sa];have hsp:splice ((CP σ key 0 rows)[i]'(by rw[HG];exact hi)) 0 [.row (σ db 0).1 (σ db 0).2 z 0 es.length]=[.row (σ db 0).1 (σ db 0).2 z 0 es.length]:=by
        simp only[splice,List.take_zero,List.nil_append,rb,ob,yb];rw[List.drop_of_length_le O'];rfl
       rw[hsp]
      ·exact h5.elim
     ·exact h5.elim
    ·rename_i i0 v0 rows
     split at h5
     ·rename_i db z m
      cases jy:za key db<;>simp only[jy,cond_true,cond_false]at h5;cases fh:OO key tm<;>simp only[fh,cond_true,cond_false]at h5;cases vp:ML key M<;>simp only[vp,cond_true,cond_false]at h5;cases hj:za j 0<;>simp only[hj,cond_true,cond_false]at h5;obtain rfl:=BO.1 hj;split at h5
      ·rename_i s2 z' es ji
       cases hz:za z z'<;>simp only[hz,cond_true,cond_false]at h5;obtain rfl:=BO.1 hz;rw[N0]at h5;obtain⟨⟨rfl,rfl⟩,hi,h5⟩:=h5;refine⟨.cn (.j5 []) (st.own.put s ((st.own s).u5 (σ key 0).2 (some ⟨1,(CP σ key 0 rows).set i [.row (σ db 0).1 (σ db 0).2 z 0 es.length]⟩))),_,_,_,λC=>?_,h5,rfl,hr.Dv hm (Or.inr ⟨v0,rfl⟩) ji (F7.1 jy) fh vp hi⟩;simp only[j4,hr.ev e G',FD,hr.ev rfl h0,R1 hc,Ia];rw[if_pos wi];simp only[Own.py,Own.get,hs,ah,BC.c9,Ma (show i<(CP σ key 0 rows).length by rw[HG];exact hi),va,Ba,rb,ob,BA];rw[if_pos O'];simp only[sa,List.set_set];rfl
      ·exact h5.elim
     ·exact h5.elim
    ·exact h5.elim
   ·rename_i i'
    split at h5
    ·rename_i rows
     cases hd:E1 vs<;>simp only[hd,cond_true,cond_false]at h5;obtain⟨z,es,g0,cs,g1,g2,g3,h5⟩:=h5;have ah:=hr.sat.c9 key (i'+1) (.rw z es) (by simp[c8,hm,g0]);refine⟨.cn (.j5 []) (st.own.put (σ key (i'+1)).1 ((st.own (σ key (i'+1)).1).u5 (σ key (i'+1)).2 (some ⟨z,es.set i (splice cs j vs)⟩))),σ,_,_,λC=>?_,h5,rfl,hr.Rb hm g0 g3⟩;simp only[j4,hr.ev e G',FD,hr.ev rfl h0,R1 hc,KZ hd];rw[if_pos wi];simp only[Own.py,Own.get,ah,BC.c9,g1];rw[if_pos g2];rfl
    ·exact h5.elim
  ·exact h5.elim
 ·exact h.elim
theorem AfL{s z bytes:Nat}{zero:w_}{a c:AL}(hr:RX σ tm M st)(h:XE L tm M b9 K (.mk s z bytes zero a c)):BR L tm b9 K (.mk s z bytes zero a c) st:=by
 simp only[XE]at h;split at h
 ·rename_i k1 p k2 q e1 e2
  cases hz:za zero.length z<;>simp only[hz,cond_true,cond_false]at h;cases hd:E1 zero<;>simp only[hd,cond_true,cond_false]at h;split at h
  ·cases ff:FG s<;>simp only[ff,cond_true,cond_false]at h
   obtain⟨⟨g1,g2,g3,g4⟩,h⟩:=h;obtain⟨k,h1,h2,h3⟩:=I8 h;have jc:BC.flat (.mx (Fa p.toNat none)):=by
    intro i x hx;have:=List.getElem?_replicate (n:=p.toNat) (a:=(none:p_)) (i:=i)
    rw[this]at hx;split at hx<;>cases hx
   have ku:z=1:=(BO.1 hz).symm;have lf:BC.c9 σ k (.mx (Fa p.toNat none))=⟨z,Fa p.toNat [.nil]⟩:=by
    simp only[BC.c9,ku];congr 1;have:∀(n i:Nat),CP σ k i (Fa n none)=Fa n [AV.nil]:=by
     intro n;induction n with
     |zero=>intro i;rfl
     |succ n ih=>intro i;rw[sc,sc,CP,ih]
    exact this _ _
   refine⟨.new s (BC.c9 σ k (.mx (Fa p.toNat none))) (λt=>.row s t z 0 p.toNat),_,_,_,λC=>?_,h3,?_,hr.iu h1 h2 (.mx _) jc rfl (λ_=>ff)⟩
   ·simp only[j4,hr.ev e1 G',hr.ev e2 G',I3,lf]
    rw[if_pos ⟨g1,g2,g3,g4,BO.1 hz⟩]
   ·simp only[B9.res,DZ,BZ]
  ·cases ff:FG s<;>simp only[ff,cond_true,cond_false]at h
   obtain⟨⟨g1,g2,g3,g4⟩,h⟩:=h;obtain⟨k,h1,h2,h3⟩:=I8 h;refine⟨.new s ⟨z,Fa p.toNat zero⟩ (λt=>.row s t z 0 p.toNat),_,_,_,λC=>?_,h3,?_,hr.iu h1 h2 (.rw z _) trivial rfl (λ_=>ff)⟩
   ·simp only[j4,hr.ev e1 G',hr.ev e2 G',I3]
    rw[if_pos ⟨g1,g2,g3,g4,BO.1 hz⟩]
   ·simp only[B9.res,DZ,BZ]
 ·exact h.elim
theorem Td{v:AV}{K:AV->Prop}(h:f2 v K):v ≠ .any/\BD σ v=BN σ v/\K v:=by
 cases v<;>simp only[f2,JH]at h<;>first|exact h.elim|exact⟨G',rfl,h⟩
theorem Vy:∀(vs:w_)(i:Nat),zz vs i ≠ .any->vs[i]?=some (zz vs i)
 |[],_,h=>absurd rfl h
 |_::_,0,_=>rfl
 |_::r,i+1,h=>Vy r i h
theorem AfC{x:AL}{i:Nat}(hr:RX σ tm M st)(h:XE L tm M b9 K (.ext x i)):BR L tm b9 K (.ext x i) st:=by
 simp only[XE]at h;split at h
 ·rename_i vs e
  obtain⟨h1,h2,h3⟩:=Td (σ:=σ) h;refine BR.val hr _ (λC=>?_) h3;simp only[j4,hr.ev e G',KN,ec,Vy vs i h1,sa,h2]
 ·exact h.elim
theorem AfJ{x:AL}(hr:RX σ tm M st)(h:XE L tm M b9 K (.len x)):BR L tm b9 K (.len x) st:=by
 simp only[XE]at h;split at h
 ·rename_i q es e
  exact BR.val hr _ (λC=>by simp only[j4,hr.ev e G',IO,RA];rfl) h.h
 ·rename_i e
  exact BR.val hr _ (λC=>by simp only[j4,hr.ev e G',GU,RA];rfl) h
 ·rename_i e
  exact BR.val hr _ (λC=>by simp only[j4,hr.ev e G',DZ,RA];rfl) h
 ·exact h.elim
theorem Vc{mx:Bool}{k:IntKind}{K:AV->Prop}:∀{l:w_}{a:Int},WG mx k K a l->∃n,M3 mx (.int k a) l=some (.int k n)/\K (.int k n)/\(∀v∈l,v ≠ .any/\BD σ v=v)
 |[],a,h=>⟨a,rfl,h,λv hv=>by cases hv⟩
 |v::r,a,h=>by
  cases v with
  |int k' b=>
   have h:(bif mx then AF (a<b) (b<=a) (WG mx k K b r) (WG mx k K a r)else AF (b<a) (a<=b) (WG mx k K b r) (WG mx k K a r)):=h;have fin:∀c:Int,RD mx (.int k a) (.int k' b)=some (.int k c)->WG mx k K c r->∃n,M3 mx (.int k a) (.int k' b::r)=some (.int k n)/\K (.int k n)/\(∀v∈AV.int k' b::r,v ≠ .any/\BD σ v=v):=by
    intro c hc hx;obtain⟨n,h1,h2,h3⟩:=Vc hx;refine⟨n,by simp only[M3,hc,h1],h2,λv hv=>?_⟩;rcases Da.1 hv with rfl|hv
    ·exact⟨G',rfl⟩
    ·exact h3 v hv
   cases mx
   ·simp only[cond_false]at h
    by_cases hc:b<a
    ·exact fin b (by simp[RD,hc]) (h.1 hc)
    ·exact fin a (by simp[RD,hc]) (h.2 O')
   ·simp only[cond_true]at h
    by_cases hc:a<b
    ·exact fin b (by simp[RD,hc]) (h.1 hc)
    ·exact fin a (by simp[RD,hc]) (h.2 O')
  |_=>exact(h:False).elim
theorem AfP{mx:Bool}{xs:List AL}(hr:RX σ tm M st)(h:XE L tm M b9 K (.mm mx xs)):BR L tm b9 K (.mm mx xs) st:=by
 simp only[XE]at h;split at h
 ·rename_i k a r e
  obtain⟨n,h1,h2,h3⟩:=Vc (σ:=σ) h;refine BR.val hr (.int k n) (λC=>?_) h2;have hx:∀v∈SA tm xs,v ≠ .any:=by
   rw[e];intro v hv;rcases Da.1 hv with rfl|hv
   ·intro e;cases e
   ·exact(h3 v hv).1
  have hm:(SA tm xs).map (BD σ) = .int k a::r:=by
   rw[e,va];congr 1;conv=>rhs;rw[<-Dc r]
   exact Na λv hv=>(h3 v hv).2
  simp only[j4];rw[show xs.map st.ev = .int k a::r from(evL hr hx).trans hm];simp only[h1,sa,I3]
 ·exact h.elim
theorem Am3(hr:RX σ tm M st){k t:Nat}{K:Nat->v_->Prop}(h:rH M k t K):∃z es,(st.own (σ k t).1).c9 (σ k t).2=some ⟨z,es⟩/\K z es:=by
 unfold rH at h;split at h
 ·rename_i s c hm
  split at h
  ·split at h
   ·exact⟨_,_,hr.sat.c9 _ _ _ (EQ hm),h⟩
   ·exact h.elim
  ·rename_i i
   split at h
   ·rename_i rows
    obtain⟨z,es,g,h⟩:=h;exact⟨z,es,hr.sat.c9 k (i+1) (.rw z es) (by simp[c8,hm,g]),h⟩
   ·exact h.elim
 ·exact h.elim
theorem AnJ{own q8:Own}{s t i j:Nat}{vs:w_}(h:own.py s t i j vs=some q8):own.put s (q8 s)=q8:=by
 unfold Own.py at h;cases hg:own.get s t with
 |none=>simp[hg]at h
 |some b=>
  simp only[hg]at h;cases he:b.es[i]? with
  |none=>simp[he]at h
  |some cs=>
   simp only[he]at h;split at h
   ·obtain rfl:=ta h
    rw[Own.n9]
   ·cases h
theorem AfX{s n:Nat}{x v:AL}(hr:RX σ tm M st)(h:XE L tm M b9 K (.qt s n x v)):BR L tm b9 K (.qt s n x v) st:=by
 simp only[XE]at h;split at h
 ·rename_i key i j e1
  split at h
  ·rename_i s' c hm
   cases hb:za s' s<;>simp only[hb,cond_true,cond_false]at h;obtain rfl:=BO.1 hb;have im:=hr.sat.site _ _ _ hm;obtain⟨E,σ',v',M',h1,h2,h3,h4⟩:=uK (b9:=b9) (L:=L) hr (show XE L tm M b9 K (.st n x v)from h);have de:=hr.ev e1 G';rw[FD,im]at de;have key:∀vs,cellsOf (st.ev v)=some vs->vs.length=n->∃o',st.own.py s' (σ key 0).2 i j vs=some o'/\E = .cn (.j5 []) o':=λvs iq hn=>by
    have:=h1 0
    simp only[j4,de,iq]at this;rw[if_pos hn,ga]at this;obtain⟨o',a1,a2⟩:=this;exact⟨o',a1,a2.symm⟩
   cases iq:cellsOf (st.ev v)with
   |none=>have:=h1 0;simp[j4,de,iq]at this
   |some vs=>
    by_cases hn:vs.length=n
    ·obtain⟨o',a1,rfl⟩:=key vs iq hn
     refine⟨.u5 s' (o' s'),σ',v',M',λC=>?_,h2,h3,?_⟩
     ·simp only[j4,de,iq]
      rw[if_pos ⟨trivial,hn⟩,a1];rfl
     ·have e2:(B9.res st.own (.u5 s' (o' s'))).2=o':=AnJ a1
      rw[e2];exact h4
    ·have:=h1 0
     simp only[j4,de,iq]at this;rw[if_neg hn]at this;cases this
  ·exact h.elim
 ·exact h.elim
theorem AfH{ne:Bool}{x:AL}(hr:RX σ tm M st)(h:XE L tm M b9 K (.uh ne x)):BR L tm b9 K (.uh ne x) st:=by
 simp only[XE]at h;split at h
 ·rename_i e1
  rw[SB]at h;exact BR.val hr _ (λC=>by simp only[j4,hr.ev e1 G',GU,I2]) h
 ·rename_i b e1
  rw[SB]at h;exact BR.val hr _ (λC=>by simp only[j4,hr.ev e1 G',rI,I2]) h
 ·rename_i q es e1
  obtain⟨h0,h⟩:=h;rw[SB]at h;cases es with
  |nil=>exact absurd rfl h0
  |cons e es=>exact BR.val hr _ (λC=>by simp only[j4,hr.ev e1 G',IO,I2]) h
 ·rename_i s t z o n e1
  obtain⟨h0,h⟩:=h;rw[SB]at h;cases n with
  |zero=>exact absurd h0 O'
  |succ n=>exact BR.val hr _ (λC=>by simp only[j4,hr.ev e1 G',DZ,I2]) h
 ·exact h.elim
theorem AfS{x:AL}(hr:RX σ tm M st)(h:XE L tm M b9 K (.mg x)):BR L tm b9 K (.mg x) st:=by
 simp only[XE]at h;split at h
 ·rename_i key t i j e
  exact BR.val hr _ (λC=>by simp only[j4,hr.ev e G',FD]) h
 ·exact h.elim
theorem AfU{tb:u_}{x:AL}(hr:RX σ tm M st)(h:XE L tm M b9 K (.jg tb x)):BR L tm b9 K (.jg tb x) st:=by
 simp only[XE]at h;split at h
 ·rename_i k n e1
  obtain⟨h0,v,h1,h2⟩:=h;exact BR.val hr _ (λC=>by simp only[j4,hr.ev e1 G',I3,h1];rw[if_pos h0]) h2
 ·exact h.elim
theorem AjX{v:AV}{K:AV->Prop}(h:fF v K):v ≠ .any/\IL (BD σ v)=some (BA σ v)/\K v:=by
 cases v<;>first|exact(h:False).elim|exact⟨G',rfl,h⟩
theorem Xy(hr:RX σ tm M st):∀{l:List AL}{K:w_->Prop},pZ tm l K->∃cs,l.mapM (λx=>IL (st.ev x))=some (cs.map (BA σ))/\K cs
 |[],K,h=>⟨[],rfl,h⟩
 |x::r,K,h=>by
  obtain⟨h0,hc,h⟩:=AjX (σ:=σ) (show fF (ex tm x) λv=>pZ tm r λcs=>K (v::cs)from h);obtain⟨cs,h1,h2⟩:=Xy hr h;refine⟨ex tm x::cs,?_,h2⟩;rw[na,h1,hr.ev rfl h0,hc];rfl
theorem AfM{p:Bool}{f:Nat}{xs:List AL}(hr:RX σ tm M st)(h:XE L tm M b9 K (.qm p f xs)):BR L tm b9 K (.qm p f xs) st:=by
 simp only[XE]at h;obtain⟨cs,h1,h2⟩:=Xy hr h;exact BR.val hr _ (λC=>by simp only[j4,h1,sa,cD,List.isEmpty_map];rfl) h2
theorem xV(hr:RX σ tm M st){v:AV}{K:v_->Prop}(h:aH M v K):v ≠ .any/\∃es,FB st.own (BD σ v)=some es/\K es:=by
 cases v with
 |sl q es=>exact⟨G',_,rfl,h⟩
 |nil=>exact⟨G',_,rfl,h⟩
 |y8 v=>
  cases v with
  |bool b=>exact⟨G',_,rfl,h⟩
  |_=>exact(h:False).elim
 |row key t z off len=>
  simp only[aH]at h;obtain⟨z',es,g,h⟩:=Am3 hr h;cases hz:za z z'<;>simp only[hz,cond_true,cond_false]at h;obtain rfl:=BO.1 hz;refine⟨G',_,?_,h.2⟩;simp only[DZ,FB,Own.get,g];rw[if_pos ⟨h.1,trivial⟩]
 |_=>exact(h:False).elim
theorem qA(hr:RX σ tm M st){o:Option AL}{K:Option Int->Prop}(h:iN tm o K):(o=none/\K none)\/∃x k n,o=some x/\st.ev x = .int k n/\K (some n):=by
 unfold iN at h;split at h
 ·exact Or.inl ⟨rfl,h⟩
 ·split at h
  ·rename_i e
   exact Or.inr ⟨_,_,_,rfl,hr.ev e G',h⟩
  ·exact h.elim
theorem AfV{z:Nat}{x:AL}{lo hi:Option AL}(hr:RX σ tm M st)(h:XE L tm M b9 K (.iz z x lo hi)):BR L tm b9 K (.iz z x lo hi) st:=by
 simp only[XE]at h;have go:∀(a b:Option Int),(match ex tm x with
   |.sl l es=>CB z es a b λes=>K (.sl l es) M
   |.row key t z' off len=>bif za z' z then BU a b len λa h=>K (.row key t z (off+a) (h-a)) M else False
   |.nil=>(match a,b with
    |none,none=>K .nil M
    |some a,none=>AX (a=0) (K .nil M)
    |none,some h=>AX (h=0) (K .nil M)
    |some a,some h=>AX (a=0/\h=0) (K .nil M))
   |_=>False)->(lo=none/\a=none\/∃y k n,lo=some y/\st.ev y = .int k n/\a=some n)->(hi=none/\b=none\/∃y k n,hi=some y/\st.ev y = .int k n/\b=some n)->BR L tm b9 K (.iz z x lo hi) st:=by
  intro a b h ha hb;split at h
  ·rename_i q es e
   obtain⟨g1,a',h',g2,g3,g4,h⟩:=h;refine BR.val hr _ (λC=>?_) h;rcases ha with⟨rfl,rfl⟩|⟨y,k,n,rfl,e1,rfl⟩<;>rcases hb with⟨rfl,rfl⟩|⟨y',k',n',rfl,e2,rfl⟩<;>try simp only at g2 g3<;>simp only[j4,hr.ev e G',IO, *]<;>simp_all
  ·rename_i key t z' off len e
   cases hz:za z' z<;>simp only[hz,cond_true,cond_false]at h;obtain rfl:=BO.1 hz;obtain⟨a',h',g2,g3,g4,h⟩:=h;refine BR.val hr _ (λC=>?_) h;rcases ha with⟨rfl,rfl⟩|⟨y,k,n,rfl,e1,rfl⟩<;>rcases hb with⟨rfl,rfl⟩|⟨y',k',n',rfl,e2,rfl⟩<;>try simp only at g2 g3<;>simp only[j4,hr.ev e G',DZ, *]<;>simp_all
  ·rename_i e
   rcases ha with⟨rfl,rfl⟩|⟨y,k,n,rfl,e1,rfl⟩<;>rcases hb with⟨rfl,rfl⟩|⟨y',k',n',rfl,e2,rfl⟩<;>simp only at h
   ·exact BR.val hr .nil (λC=>by simp only[j4,hr.ev e G',GU]) h
   ·exact BR.val hr .nil (λC=>by simp only[j4,hr.ev e G',GU,e2,h.1,if_true]) h.2
   ·exact BR.val hr .nil (λC=>by simp only[j4,hr.ev e G',GU,e1,h.1,if_true]) h.2
   ·exact BR.val hr .nil (λC=>by simp only[j4,hr.ev e G',GU,e1,e2,h.1.1,h.1.2,if_true]) h.2
  ·exact h.elim
 rcases qA hr h with⟨h1,h⟩|⟨y,k,n,h1,h2,h⟩
 ·rcases qA hr h with⟨g1,h⟩|⟨y,k,n,g1,g2,h⟩
  ·exact go _ _ h (Or.inl ⟨h1,rfl⟩) (Or.inl ⟨g1,rfl⟩)
  ·exact go _ _ h (Or.inl ⟨h1,rfl⟩) (Or.inr ⟨_,_,_,g1,g2,rfl⟩)
 ·rcases qA hr h with⟨g1,h⟩|⟨y',k',n',g1,g2,h⟩
  ·exact go _ _ h (Or.inr ⟨_,_,_,h1,h2,rfl⟩) (Or.inl ⟨g1,rfl⟩)
  ·exact go _ _ h (Or.inr ⟨_,_,_,h1,h2,rfl⟩) (Or.inr ⟨_,_,_,g1,g2,rfl⟩)
theorem jC{s key:Nat}:∀{M:Mem},IM s M=false->IM s (w5 key M)=false
 |[],_=>rfl
 |(i,s0,c0)::r,h=>by
  simp only[IM]at h;cases q0:za s i<;>simp only[q0,cond_true,cond_false]at h
  ·cases q1:J3 s c0<;>simp only[q1,cond_true,cond_false]at h
   ·simp only[w5]
    cases za key i
    ·simp only[cond_false,IM,q0,q1,jC h]
    ·simp only[cond_true,jC h]
   ·cases h
  ·cases h
theorem Afu{s z bytes:Nat}{x y:AL}(hr:RX σ tm M st)(h:aH M (ex tm y) λys=>match ex tm x with
   |.row key 0 z' off len=>bif za off 0 then bif za z' z then(match e8 M key with
    |some (s',.rw dj es)=>bif za dj z then fM (w5 key M) λM'=>(BI es len ys z bytes λes' n=>HV s tm M λk=>K (.row k 0 z 0 n) ((k,s',.rw z es')::M'))else False
    |_=>False)else False else False
   |.row key (i+1) z' off len=>bif za off 0 then bif za z' z then(match e8 M key with
    |some (sk,.mx rows)=>fM (w5 key M) λM'=>B3 rows i λdj es=>bif za dj z then(BI es len ys z bytes λes' n=>∀s' v,HV s tm M λk=>K (.row k 0 z 0 n) ((k,s',.rw z es')::(key,sk,.hx i v (rows.set i none))::M'))else False
    |_=>False)else False else False
   |.nil=>bif FG s then B0 ys z bytes λes n=>HV s tm M λk=>K (.row k 0 z 0 n) ((k,s,.rw z es)::M)else False
   |_=>False):BR L tm b9 K (.app s z bytes x y) st:=by
 obtain⟨h0,ys,hy,h⟩:=xV hr h;have Be:FB st.own (st.ev y)=some ys:=by rw[hr.ev rfl h0];exact hy
 split at h
 ·rename_i key z' off len e
  cases ho:za off 0<;>simp only[ho,cond_true,cond_false]at h;cases hz:za z' z<;>simp only[hz,cond_true,cond_false]at h;obtain rfl:=BO.1 ho;obtain rfl:=BO.1 hz;split at h
  ·rename_i s' dj es hm
   cases ka:za dj z'<;>simp only[ka,cond_true,cond_false]at h;obtain rfl:=BO.1 ka;rw[N0]at h;obtain⟨g1,g2,g3,g4,h⟩:=h;obtain⟨k,h1,h2,h3⟩:=I8 h;have hs:=hr.sat.site _ _ _ hm;have ah:=hr.sat.c9 _ _ _ (EQ hm);have hn:=(hr.kill hm).iu (s:=k) (q:=s') (jC h1) h2 (.rw dj (es.take len++ys)) trivial rfl (λ_=>by have:=hr.sat.low _ _ _ (EQ hm) rfl;rwa [hs]at this);have Bv:(st.own.put s' ((st.own s').u5 (σ key 0).2 none)).j7 s'=st.own.j7 s':=by simp[Own.j7,Own.n9,B5.u5]
   simp only[Own.n9,Own.kb,Bv]at hn;refine⟨.cn (.row s' (st.own.j7 s') dj 0 (len+ys.length)) (st.own.put s' (((st.own s').u5 (σ key 0).2 none).new ⟨dj,es.take len++ys⟩)),_,_,_,λC=>?_,h3,?_,hn⟩
   ·rw[hs]at ah
    simp only[j4,Be,hr.ev e G',DZ,Own.get,hs,ah,BC.c9];rw[if_pos g2,if_pos ⟨trivial,trivial,g1,g3,g4⟩]
   ·simp only[B9.res,DZ,BZ]
  ·exact h.elim
 ·rename_i key i z' off len e
  cases ho:za off 0<;>simp only[ho,cond_true,cond_false]at h;cases hz:za z' z<;>simp only[hz,cond_true,cond_false]at h;obtain rfl:=BO.1 ho;obtain rfl:=BO.1 hz;split at h
  ·rename_i sk rows hm
   rw[N0]at h;obtain⟨dj,es,g0,h⟩:=h;cases ka:za dj z'<;>simp only[ka,cond_true,cond_false]at h;obtain rfl:=BO.1 ka;obtain⟨g1,g2,g3,g4,h⟩:=h;have h:=h (σ key (i+1)).1 (.row (σ key (i+1)).1 (σ key (i+1)).2 dj 0 es.length);obtain⟨k,h1,h2,h3⟩:=I8 h;have ah:=hr.sat.c9 key (i+1) (.rw dj es) (by simp[c8,hm,g0]);have hn:=hr.Lr (s:=k) (es':=es.take len++ys) hm g0 h1 h2;refine⟨.cn (.row (σ key (i+1)).1 (st.own.j7 (σ key (i+1)).1) dj 0 (len+ys.length)) (st.own.put (σ key (i+1)).1 (((st.own (σ key (i+1)).1).u5 (σ key (i+1)).2 none).new ⟨dj,es.take len++ys⟩)),_,_,_,λC=>?_,h3,?_,hn⟩
   ·simp only[j4,Be,hr.ev e G',DZ,Own.get,ah,BC.c9]
    rw[if_pos g2,if_pos ⟨trivial,trivial,g1,g3,g4⟩]
   ·simp only[B9.res,DZ,BZ]
  ·exact h.elim
 ·rename_i e
  cases ff:FG s<;>simp only[ff,cond_true,cond_false]at h;obtain⟨g2,g3,g4,h⟩:=h;obtain⟨k,h1,h2,h3⟩:=I8 h;refine⟨.cn (.row s (st.own.j7 s) z 0 ys.length) (st.own.put s ((st.own s).new ⟨z,ys⟩)),_,_,_,λC=>?_,h3,?_,hr.iu h1 h2 (.rw z ys) trivial rfl (λ_=>ff)⟩
  ·simp only[j4,Be,hr.ev e G',GU]
   rw[if_pos g2,if_pos ⟨g3,g4⟩]
  ·simp only[B9.res,DZ,BZ]
 ·exact h.elim
theorem Afv{s z bytes:Nat}{x y:AL}(hr:RX σ tm M st)(h:XE L tm M b9 K (.dw s z bytes x y)):BR L tm b9 K (.dw s z bytes x y) st:=by
 simp only[XE]at h;split at h
 ·rename_i l ys ey
  split at h
  ·rename_i key z' off len e
   cases ho:za off 0<;>simp only[ho,cond_true,cond_false]at h;cases hz:za z' z<;>simp only[hz,cond_true,cond_false]at h;obtain rfl:=BO.1 ho;obtain rfl:=BO.1 hz;split at h
   ·rename_i s' dj es hm
    cases fi:za s' s<;>simp only[fi,cond_true,cond_false]at h;cases ka:za dj z'<;>simp only[ka,cond_true,cond_false]at h;obtain rfl:=BO.1 fi;obtain rfl:=BO.1 ka;rw[N0]at h;obtain⟨g1,g2,g3,g4,h⟩:=h;obtain⟨k,h1,h2,h3⟩:=I8 h;have hs:=hr.sat.site _ _ _ hm;have ah:=hr.sat.c9 _ _ _ (EQ hm);have hn:=(hr.kill hm).iu (s:=k) (q:=s') (jC h1) h2 (.rw dj (es.take len++ys)) trivial rfl (λ_=>by have:=hr.sat.low _ _ _ (EQ hm) rfl;rwa [hs]at this);have Bv:(st.own.put s' ((st.own s').u5 (σ key 0).2 none)).j7 s'=st.own.j7 s':=by simp[Own.j7,Own.n9,B5.u5]
    simp only[Own.n9,Own.kb,Bv]at hn;refine⟨.tn s' (((st.own s').u5 (σ key 0).2 none).new ⟨dj,es.take len++ys⟩) (.row s' (st.own.j7 s') dj 0 (len+ys.length)),_,_,_,λC=>?_,h3,?_,hn⟩
    ·rw[hs]at ah
     simp only[j4,hr.ev ey G',IO,hr.ev e G',DZ,Own.get,hs,ah,BC.c9];rw[if_pos ⟨trivial,g2,trivial,trivial,g1,g3,g4⟩]
    ·simp only[B9.res,DZ,BZ]
   ·exact h.elim
  ·rename_i e
   cases ff:FG s<;>simp only[ff,cond_true,cond_false]at h;obtain⟨g2,g3,g4,h⟩:=h;obtain⟨k,h1,h2,h3⟩:=I8 h;refine⟨.tn s ((st.own s).new ⟨z,ys⟩) (.row s (st.own.j7 s) z 0 ys.length),_,_,_,λC=>?_,h3,?_,hr.iu h1 h2 (.rw z ys) trivial rfl (λ_=>ff)⟩
   ·simp only[j4,hr.ev ey G',IO,hr.ev e G',GU]
    rw[if_pos ⟨g2,g3,g4⟩]
   ·simp only[B9.res,DZ,BZ]
  ·exact h.elim
 ·exact h.elim
theorem Af5{v:AV}{ky k2 z n:Nat}(h:VM M v=some (ky,some (k2,z,n))):v = .row ky 0 1 0 1/\∃sy,e8 M ky=some (sy,.bs 1 [[.row k2 0 z 0 n]]):=by
 unfold VM at h;split at h
 ·split at h
  ·rename_i hm
   simp only[xa,Qa]at h;obtain⟨rfl,rfl,rfl,rfl⟩:=h;exact⟨rfl,_,hm⟩
  ·simp at h
  ·cases h
 ·cases h
theorem Af4{v:AV}{ky:Nat}(h:VM M v=some (ky,none)):v = .row ky 0 1 0 1/\∃sy,e8 M ky=some (sy,.rw 1 [[.nil]]):=by
 unfold VM at h;split at h
 ·split at h
  ·simp at h
  ·rename_i hm
   simp only[xa,Qa,and_true]at h;subst h;exact⟨rfl,_,hm⟩
  ·cases h
 ·cases h
theorem Aft{s z bytes:Nat}{x y:AL}(hr:RX σ tm M st)(h:XE L tm M b9 K (.app s z bytes x y)):BR L tm b9 K (.app s z bytes x y) st:=by
 simp only[XE]at h;cases hV:Pb 800000 s<;>simp only[hV,cond_true,cond_false]at h;split at h
 ·rename_i ky k2 z2 n2 Nq
  obtain⟨rp,sy,zj⟩:=Af5 Nq;have nv:=hr.sat.site _ _ _ zj;have vo:=hr.sat.c9 _ _ _ (EQ zj);rw[nv]at vo
  have Ja:FB st.own (st.ev y)=some [[.row (σ k2 0).1 (σ k2 0).2 z2 0 n2]]:=by
   rw[hr.ev rp G'];simp only[DZ,FB,Own.get,nv,vo,BC.c9,BA,va,Ba,rb,ob];simp
  split at h
  ·rename_i key z' off len e
   cases ho:za off 0<;>simp only[ho,cond_true,cond_false]at h;cases hz:za z' 1<;>simp only[hz,cond_true,cond_false]at h;cases ku:za z 1<;>simp only[ku,cond_true,cond_false]at h;cases pc:za key k2<;>simp only[pc,cond_true,cond_false]at h;cases Ow:za key ky<;>simp only[Ow,cond_true,cond_false]at h;cases hk3:za k2 ky<;>simp only[hk3,cond_true,cond_false]at h;obtain rfl:=BO.1 ho;obtain rfl:=BO.1 hz;obtain rfl:=BO.1 ku;split at h
   ·rename_i s2 z3 es ji
    cases Jd:za z2 z3<;>simp only[Jd,cond_true,cond_false]at h;obtain rfl:=BO.1 Jd;split at h
    ·rename_i s' rows hm
     rw[N0]at h;obtain⟨rfl,rfl,g3,g4,h⟩:=h;obtain⟨k,h1,h2,h3⟩:=I8 h;have hs:=hr.sat.site _ _ _ hm;have ah:=hr.sat.c9 _ _ _ (EQ hm);rw[hs]at ah;refine⟨.cn (.row s' (st.own.j7 s') 1 0 (rows.length+1)) (st.own.put s' (((st.own s').u5 (σ key 0).2 none).new ⟨1,CP σ key 0 rows++[[.row (σ k2 0).1 (σ k2 0).2 z2 0 es.length]]⟩)),_,_,_,λC=>?_,h3,?_,hr.Ls (ky:=ky) hm ji (F7.1 pc) h1 h2⟩
     ·simp only[j4,Ja,hr.ev e G',DZ,Own.get,hs,ah,BC.c9]
      rw[if_pos Z',if_pos ⟨trivial,trivial,by rw[HG];exact ma _,by simpa using g3,by simpa using g4⟩];rw[zT (by rw[HG];exact ma _)];rfl
     ·simp only[B9.res,DZ,BZ]
    ·exact h.elim
   ·exact h.elim
  ·rename_i e
   cases ff:FG s<;>simp only[ff,cond_true,cond_false]at h;cases ku:za z 1<;>simp only[ku,cond_true,cond_false]at h;obtain rfl:=BO.1 ku;split at h
   ·rename_i s2 z3 es ji
    cases Jd:za z2 z3<;>simp only[Jd,cond_true,cond_false]at h;obtain rfl:=BO.1 Jd;rw[N0]at h;obtain⟨⟨rfl,g3⟩,h⟩:=h;obtain⟨k,h1,h2,h3⟩:=I8 h;obtain⟨σ',q1,q2⟩:=hr.Ra (q:=s) ji (λe=>(WS h1 _ _ _ ji).1 e.symm) h1 h2 ff;refine⟨.cn (.row s (st.own.j7 s) 1 0 1) (st.own.put s ((st.own s).new ⟨1,[[.row (σ k2 0).1 (σ k2 0).2 z2 0 es.length]]⟩)),σ',_,_,λC=>?_,h3,?_,q2⟩
    ·simp only[j4,Ja,hr.ev e G',GU]
     rw[if_pos Z',if_pos ⟨by simpa [E7]using g3,Z'⟩];rfl
    ·simp only[B9.res,DZ,q1]
   ·exact h.elim
  ·exact h.elim
 ·rename_i ky Nq
  obtain⟨rp,sy,zj⟩:=Af4 Nq;have nv:=hr.sat.site _ _ _ zj;have vo:=hr.sat.c9 _ _ _ (EQ zj);rw[nv]at vo
  have Ja:FB st.own (st.ev y)=some [[.nil]]:=by
   rw[hr.ev rp G'];simp only[DZ,FB,Own.get,nv,vo,BC.c9,rb,ob];simp
  split at h
  ·rename_i key z' off len e
   cases ho:za off 0<;>simp only[ho,cond_true,cond_false]at h;cases hz:za z' 1<;>simp only[hz,cond_true,cond_false]at h;cases ku:za z 1<;>simp only[ku,cond_true,cond_false]at h;cases Ow:za key ky<;>simp only[Ow,cond_true,cond_false]at h;obtain rfl:=BO.1 ho;obtain rfl:=BO.1 hz;obtain rfl:=BO.1 ku;split at h
   ·rename_i s' rows hm
    rw[N0]at h;obtain⟨rfl,g3,g4,h⟩:=h;obtain⟨k,h1,h2,h3⟩:=I8 h;have hs:=hr.sat.site _ _ _ hm;have ah:=hr.sat.c9 _ _ _ (EQ hm);rw[hs]at ah;refine⟨.cn (.row s' (st.own.j7 s') 1 0 (rows.length+1)) (st.own.put s' (((st.own s').u5 (σ key 0).2 none).new ⟨1,CP σ key 0 rows++[[.nil]]⟩)),_,_,_,λC=>?_,h3,?_,hr.Lt hm h1 h2⟩
    ·simp only[j4,Ja,hr.ev e G',DZ,Own.get,hs,ah,BC.c9]
     rw[if_pos Z',if_pos ⟨trivial,trivial,by rw[HG];exact ma _,by simpa using g3,by simpa using g4⟩];rw[zT (by rw[HG];exact ma _)];rfl
    ·simp only[B9.res,DZ,BZ]
   ·exact h.elim
  ·rename_i e
   cases ff:FG s<;>simp only[ff,cond_true,cond_false]at h;cases ku:za z 1<;>simp only[ku,cond_true,cond_false]at h;obtain rfl:=BO.1 ku;obtain⟨g3,h⟩:=h;obtain⟨k,h1,h2,h3⟩:=I8 h;have jc:BC.flat (.mx [none]):=by
    intro i x hx;cases i with
    |zero=>simp at hx
    |succ i=>simp at hx
   refine⟨.cn (.row s (st.own.j7 s) 1 0 1) (st.own.put s ((st.own s).new ⟨1,[[.nil]]⟩)),_,_,_,λC=>?_,h3,?_,hr.iu h1 h2 (.mx [none]) jc rfl (λ_=>ff)⟩
   ·simp only[j4,Ja,hr.ev e G',GU]
    rw[if_pos Z',if_pos ⟨by simpa [E7]using g3,Z'⟩];rfl
   ·simp only[B9.res,DZ,BZ]
  ·exact h.elim
 ·exact Afu hr h
theorem RX.lost(h:RX σ tm M st){k s:Nat}{c:BC}(e:e8 M k=some (s,c)) :
  RX σ tm (w5 k M) ⟨st.tm,st.own.put s (((st.own s).u5 (σ k 0).2 none).lost)⟩:=by
 have h1:=h.kill e;refine⟨h.tm,⟨h1.sat.site,λj t c1 e1=>?_,λj t c1 e1=>?_,h1.sat.inj,h1.sat.low⟩⟩
 ·have h2:=h1.sat.c9 j t c1 e1
  have h3:=h1.sat.old j t c1 e1;rw[<-h2];simp only[Own.put]at h3⊢;by_cases hs:(σ j t).1=s
  ·simp only[hs,if_true]at h3⊢
   have h3:(σ j t).2<(st.own s).j7:=h3;show(if(σ j t).2=(st.own s).j7 then none else _)=_;rw[if_neg O']
  ·simp only[if_neg hs]at h3⊢
 ·have h3:=h1.sat.old j t c1 e1
  simp only[Own.put]at h3⊢;by_cases hs:(σ j t).1=s
  ·simp only[hs,if_true]at h3⊢
   have h3:(σ j t).2<(st.own s).j7:=h3;show(σ j t).2<(st.own s).j7+1;omega
  ·simp only[if_neg hs]at h3⊢
   exact h3
theorem Afs{z bytes:Nat}{x y:AL}(hr:RX σ tm M st)(h:XE L tm M b9 K (.oa z bytes x y)):BR L tm b9 K (.oa z bytes x y) st:=by
 simp only[XE]at h;obtain⟨h0,ys,hy,h⟩:=xV hr h;have hy:FB st.own (st.ev y)=some ys:=by rw[hr.ev rfl h0];exact hy
 split at h
 ·rename_i key z' off len e
  cases ho:za off 0<;>simp only[ho,cond_true,cond_false]at h;cases hl:za len 0<;>simp only[hl,cond_true,cond_false]at h;cases hz:za z' z<;>simp only[hz,cond_true,cond_false]at h;obtain rfl:=BO.1 ho;obtain rfl:=BO.1 hl;obtain rfl:=BO.1 hz;split at h
  ·rename_i s z2 es hm
   cases ka:za z2 z'<;>simp only[ka,cond_true,cond_false]at h;obtain rfl:=BO.1 ka;rw[N0]at h;obtain⟨g1,g2,g3,h⟩:=h;have hs:=hr.sat.site _ _ _ hm;have ah:=hr.sat.c9 _ _ _ (EQ hm);rw[hs]at ah;refine⟨.cn (.sl false ys) (st.own.put s (((st.own s).u5 (σ key 0).2 none).lost)),_,_,_,λC=>?_,h,rfl,hr.lost hm⟩;simp only[j4,hy,hr.ev e G',DZ,Own.get,hs,ah,BC.c9];rw[if_pos ⟨g1,trivial,trivial,g2,g3⟩]
  ·exact h.elim
 ·exact h.elim
theorem AfW{fs f z:Nat}{x c:AL}(hr:RX σ tm M st)(h:XE L tm M b9 K (.fm fs f z x c)):BR L tm b9 K (.fm fs f z x c) st:=by
 simp only[XE]at h;split at h
 ·rename_i f' g e
  obtain⟨hg,h⟩:=h;have he:=hr.ev e G';rw[cD,Ba]at he;split at h
  ·rename_i e2
   refine⟨.cn (.j5 []) st.own,σ,_,_,λC=>?_,h,rfl,hr⟩;simp only[j4,he,hr.ev e2 G',GU];exact if_pos hg
  ·rename_i key z' off len e2
   cases ho:za off 0<;>simp only[ho,cond_true,cond_false]at h;cases hz:za z' z<;>simp only[hz,cond_true,cond_false]at h;obtain rfl:=BO.1 ho;obtain rfl:=BO.1 hz;split at h
   ·rename_i s z2 es hm
    cases ka:za z2 z'<;>simp only[ka,cond_true,cond_false]at h;obtain rfl:=BO.1 ka;obtain⟨q1,q2,es',q3,h⟩:=h;have hs:=hr.sat.site _ _ _ hm;have ah:=hr.sat.c9 _ _ _ (EQ hm);rw[hs]at ah;refine⟨.cn (.j5 []) (st.own.put s ((st.own s).u5 (σ key 0).2 (some ⟨z2,es'⟩))),_,_,_,λC=>?_,h,rfl,hr.Jm hm trivial (.rw z2 _) trivial (λ_=>rfl)⟩;simp only[j4,he,hr.ev e2 G',DZ,Own.get,hs,ah,BC.c9];refine(if_pos hg).trans ?_;refine(if_pos ⟨q1,trivial,trivial,q2⟩).trans ?_;rw[show jV (CZ L C).cmp f es=some es' from Adn.2 q3];rfl
   ·exact h.elim
  ·exact h.elim
 ·exact h.elim
theorem AfN{s:Nat}(hr:RX σ tm M st)(h:XE L tm M b9 K (.qo s)):BR L tm b9 K (.qo s) st:=by
 simp only[XE]at h;cases ff:FG s<;>simp only[ff,cond_true,cond_false]at h;obtain⟨k,h1,h2,h3⟩:=I8 h;refine⟨_,_,_,_,λC=>rfl,h3,?_,hr.iu h1 h2 (.rw 2 []) trivial rfl (λ_=>ff)⟩;simp only[B9.res,rJ,BZ]
theorem AfO{x kk:AL}(hr:RX σ tm M st)(h:XE L tm M b9 K (.ru x kk)):BR L tm b9 K (.ru x kk) st:=by
 simp only[XE]at h;split at h
 ·rename_i key b e e2
  split at h
  ·rename_i s z es hm
   cases hb:O6 s b9<;>simp only[hb,cond_true,cond_false]at h;obtain⟨g,h⟩:=h;have hs:=hr.sat.site _ _ _ hm;have ah:=hr.sat.c9 _ _ _ (EQ hm);rw[hs]at ah;exact BR.val hr _ (λC=>by
    simp only[j4,hr.ev e G',hr.ev e2 G',rJ,rI,Own.get,hs];rw[WJ hb,ah];exact if_pos g) h
  ·exact h.elim
 ·exact h.elim
theorem AfR{x kk v:AL}(hr:RX σ tm M st)(h:XE L tm M b9 K (.qp x kk v)):BR L tm b9 K (.qp x kk v) st:=by
 simp only[XE]at h;split at h
 ·rename_i key b n e e2 e3
  split at h
  ·rename_i s z es hm
   obtain⟨g,h⟩:=h;have hs:=hr.sat.site _ _ _ hm;have ah:=hr.sat.c9 _ _ _ (EQ hm);rw[hs]at ah;refine⟨.cn .any (st.own.put s ((st.own s).u5 (σ key 0).2 (some ⟨z,S4 es b n⟩))),_,_,_,λC=>?_,h,rfl,hr.Jm hm trivial (.rw z _) trivial (λ_=>rfl)⟩;simp only[j4,hr.ev e G',hr.ev e2 G',hr.ev e3 G',rJ,rI,I3,Own.get,hs,ah];exact if_pos g
  ·exact h.elim
 ·exact h.elim
end
end Go.e9

namespace Go.e9
section
variable {σ:GJ} {tm:Tm} {M:Mem} {st:St} {L:Lib} {b9:u_}
theorem Ya{own:Own}{q:Bool}{d:Nat}:∀{e:w_},HJ e=true->e.mapM (snap own q d)=some e
 |[],_=>rfl
 |v::r,h=>by
  have hv:snap own q d v=some v/\HJ r=true:=by
   cases v<;>simp only[HJ]at h<;>first|cases h|exact⟨by cases d<;>rfl,h⟩
  rw[na,hv.1,Ya hv.2];rfl
theorem Yc{own:Own}{q:Bool}{d:Nat}:∀{e:w_},N7 e=true->e.mapM (snap own q d)=some (e.map nl)
 |[],_=>rfl
 |v::r,h=>by
  have hv:snap own q d v=some (nl v)/\N7 r=true:=by
   cases v<;>simp only[N7]at h<;>first|cases h|exact⟨by cases d<;>rfl,h⟩
  rw[na,hv.1,Yc hv.2];rfl
theorem Yb{own:Own}{q:Bool}{d:Nat}:∀{es:v_},(∀e∈es,N7 e=true)->es.mapM (λcs:w_=>cs.mapM (snap own q d))=some (es.map λe=>e.map nl)
 |[],_=>rfl
 |e::r,h=>by
  rw[na,Yc (h e Ib),Yb λx hx=>h x (qb _ hx)];rfl
theorem Xz{own:Own}{q:Bool}{d:Nat}:∀{es:v_},(∀e∈es,HJ e=true)->es.mapM (λcs:w_=>cs.mapM (snap own q d))=some es
 |[],_=>rfl
 |e::r,h=>by
  rw[na,Ya (h e Ib),Xz λx hx=>h x (qb _ hx)];rfl
theorem Add(hs:IE σ st.own M){q:Bool}{v:AV}{K:AV->Prop}(h:W4 q M b9 v K):∃v',(∀d,snap (st.own.u7 b9) q (d+1) (BA σ v)=some v')/\K v'/\v ≠ .any/\BN σ v=BA σ v:=by
 cases v with
 |row key t z off len=>
  have fin:∀(z':Nat)(es:v_),((st.own.u7 b9) (σ key t).1).c9 (σ key t).2=some ⟨z',es⟩->z=z'->A1 es off len (λes=>K (.sl q es))->∃v',(∀d,snap (st.own.u7 b9) q (d+1) (BA σ (.row key t z off len))=some v')/\K v'/\AV.row key t z off len ≠ .any/\BN σ (.row key t z off len)=BA σ (.row key t z off len):=by
   intro z' es hb hz h;subst hz;obtain⟨h1,h2,h3⟩:=h;refine⟨_,λd=>?_,h3,G',rfl⟩;simp only[BA,snap,FB,Own.get,hb];rw[if_pos ⟨h1,trivial⟩];simp only;rw[Yb λe he=>h2 e (List.mem_of_mem_drop (List.mem_of_mem_take he))];rfl
  simp only[W4]at h;split at h
  ·rename_i s z' es hm
   split at h
   ·cases hz:za z z'<;>simp only[hz,cond_true,cond_false]at h
    cases hb:O6 s b9<;>simp only[hb,cond_true,cond_false]at h;refine fin z' es ?_ (BO.1 hz) h;have ah:=hs.c9 _ _ _ (EQ hm);rw[hs.site _ _ _ hm]at ah⊢;rw[WJ hb];exact ah
   ·exact h.elim
  ·rename_i s rows hm
   split at h
   ·exact h.elim
   ·rename_i i
    split at h
    ·obtain⟨z',es,g,h⟩:=h
     cases hz:za z z'<;>simp only[hz,cond_true,cond_false]at h;exact fin z' es (hs.c9 key (i+1) (.rw z' es) (by simp[c8,hm,g])) (BO.1 hz) h
    ·rename_i b r
     cases hb:WK (b::r)<;>simp only[hb,cond_true,cond_false]at h;obtain⟨z',es,g,h⟩:=h;cases hz:za z z'<;>simp only[hz,cond_true,cond_false]at h;have g':c8 M key (i+1)=some (.rw z' es):=by simp[c8,hm,g]
     refine fin z' es ?_ (BO.1 hz) h;rw[qC (hs.low _ _ _ g' rfl) hb];exact hs.c9 key (i+1) (.rw z' es) g'
  ·exact h.elim
 |int k n=>exact⟨_,λd=>rfl,h,G',rfl⟩
 |bool b=>exact⟨_,λd=>rfl,h,G',rfl⟩
 |sl l es=>exact⟨_,λd=>rfl,h,G',rfl⟩
 |y8 c=>exact⟨_,λd=>rfl,h,G',rfl⟩
 |nil=>exact⟨_,λd=>rfl,h,G',rfl⟩
 |_=>exact(h:False).elim
theorem Adc(hs:IE σ st.own M){q:Bool}:∀{l:w_}{K:w_->Prop},jP q M b9 l K->∃l',(∀d,(l.map (BA σ)).mapM (snap (st.own.u7 b9) q (d+1))=some l')/\K l'
 |[],K,h=>⟨[],λd=>rfl,h⟩
 |v::r,K,h=>by
  obtain⟨v',h1,h2,_⟩:=Add hs (show W4 q M b9 v λv'=>jP q M b9 r λr'=>K (v'::r')from h);obtain⟨l',h3,h4⟩:=Adc hs h2;refine⟨v'::l',λd=>?_,h4⟩;rw[va,na,h1 d,h3 d];rfl
theorem Adb(hs:IE σ st.own M){q:Bool}:∀{l:v_}{K:v_->Prop},rU q M b9 l K->∃l',(∀d,(l.map λcs=>cs.map (BA σ)).mapM (λcs:w_=>cs.mapM (snap (st.own.u7 b9) q (d+1)))=some l')/\K l'
 |[],K,h=>⟨[],λd=>rfl,h⟩
 |v::r,K,h=>by
  obtain⟨v',h1,h2⟩:=Adc hs (show jP q M b9 v λv'=>rU q M b9 r λr'=>K (v'::r')from h);obtain⟨l',h3,h4⟩:=Adb hs h2;refine⟨v'::l',λd=>?_,h4⟩;rw[va,na,h1 d,h3 d];rfl
theorem rF{own:Own}{q:Bool}{d:Nat}{k:Nat}:∀{rows:List (p_)}{i:Nat},(∀j z es,rows[j]?=some (some (z,es))->(own (σ k (i+j+1)).1).c9 (σ k (i+j+1)).2=some ⟨z,es⟩/\∀e∈es,HJ e=true) ->
  (CP σ k i rows).mapM (λcs:w_=>cs.mapM (snap own q (d+1)))=some (MA q rows)
 |[],i,h=>rfl
 |none::r,i,h=>by
  rw[CP,na,rF (i:=i+1) λj z es hj=>by
   have:=h (j+1) z es (by simpa using hj)
   rwa [show i+(j+1)+1=i+1+j+1 by omega]at this]
  rfl
 |some (z,es)::r,i,h=>by
  rw[CP,na,rF (i:=i+1) λj z es hj=>by
   have:=h (j+1) z es (by simpa using hj)
   rwa [show i+(j+1)+1=i+1+j+1 by omega]at this]
  obtain⟨h1,h2⟩:=h 0 z es rfl;have:snap own q (d+1) (.row (σ k (i+1)).1 (σ k (i+1)).2 z 0 es.length)=some (.sl q es):=by
   simp only[snap,FB,Own.get];rw[show(own (σ k (i+1)).1).c9 (σ k (i+1)).2=some ⟨z,es⟩from h1];simp only[yb,ma,and_self,if_true,Eb];rw[zT (ma _),Xz h2];rfl
  rw[na,this];rfl
theorem Ada(hs:IE σ st.own M){q:Bool}{v:AV}{K:AV->Prop}(h:cG q M b9 v K):∃v',snap (st.own.u7 b9) q 6 (BA σ v)=some v'/\K v'/\v ≠ .any/\BN σ v=BA σ v/\DD (st.own.u7 b9) q (BA σ v)=some v':=by
 have vh:W4 q M b9 v K->∃v',snap (st.own.u7 b9) q 6 (BA σ v)=some v'/\K v'/\v ≠ .any/\BN σ v=BA σ v/\DD (st.own.u7 b9) q (BA σ v)=some v':=by
  intro h;obtain⟨v',h1,h2,h3,h4⟩:=Add hs h;refine⟨v',h1 5,h2,h3,h4,?_⟩;have:=h1 5
  cases v<;>first|exact this|exact(h:False).elim
 unfold cG at h;split at h
 ·rename_i key z off len
  split at h
  ·rename_i s z' es hm
   cases hz:za z z'<;>simp only[hz,cond_true,cond_false]at h;cases hb:O6 s b9<;>simp only[hb,cond_true,cond_false]at h;cases ho:za off 0<;>simp only[ho,cond_true,cond_false]at h;obtain rfl:=BO.1 hz;obtain rfl:=BO.1 ho;obtain⟨rfl,h⟩:=h;obtain⟨l',h1,h2⟩:=Adb hs h;have ah:=hs.c9 _ _ _ (EQ hm);rw[hs.site _ _ _ hm]at ah;have key:snap (st.own.u7 b9) q 6 (BA σ (.row key 0 z 0 es.length))=some (.sl q l'):=by
    simp only[BA,snap,FB,Own.get,hs.site _ _ _ hm];rw[WJ hb,ah];simp only[BC.c9,yb,Ia,ma,and_self,if_true,Eb];rw[zT Z',h1 4];rfl
   exact⟨_,key,h2,G',rfl,key⟩
  ·rename_i s rows hm
   split at h
   ·cases hz:za z 1<;>simp only[hz,cond_true,cond_false]at h
    obtain rfl:=BO.1 hz;obtain⟨rfl,rfl,h1,h2⟩:=h;have ah:=hs.c9 _ _ _ (EQ hm);have key:snap (st.own.u7 []) q 6 (BA σ (.row key 0 1 0 rows.length))=some (.sl q (MA q rows)):=by
     simp only[BA,snap,FB,Own.get,Own.u7];rw[ah];simp only[BC.c9,yb,HG,ma,and_self,if_true,Eb];rw[zT (by rw[HG];exact ma _),rF (i:=0) λj z es hj=>⟨by
      have:=hs.c9 key (j+1) (.rw z es) (by simp[c8,hm,hj])
      simpa [BC.c9]using this,h1 z es (zM hj)⟩]
     rfl
    exact⟨_,key,h2,G',rfl,key⟩
   ·exact h.elim
  ·exact vh h
 ·exact vh h
theorem Ade(hs:IE σ st.own M){q:Bool}:∀{l:w_}{K:w_->Prop},rV q M b9 l K->∃l',(l.map (BA σ)).mapM (snap (st.own.u7 b9) q 6)=some l'/\K l'
 |[],K,h=>⟨[],rfl,h⟩
 |v::r,K,h=>by
  obtain⟨v',h1,h2,_⟩:=Ada hs (show cG q M b9 v λv'=>rV q M b9 r λr'=>K (v'::r')from h);obtain⟨l',h3,h4⟩:=Ade hs h2;refine⟨v'::l',?_,h4⟩;rw[va,na,h1,h3];rfl
theorem jO(hs:IE σ st.own M){q:Bool}{v:AV}{K:AV->Prop}(h:RM q M b9 v K):∃v',DD (st.own.u7 b9) q (BD σ v)=some v'/\K v'/\v ≠ .any/\BD σ v=BN σ v:=by
 cases v with
 |agg cs=>
  simp only[RM]at h;obtain⟨l',h1,h2⟩:=Ade hs h;refine⟨.agg l',?_,h2,G',rfl⟩;simp only[KM,DD,h1,sa]
 |j5 vs=>exact(h:False).elim
 |fn p f g cs=>exact(h:False).elim
 |any=>exact(h:False).elim
 |_=>
  simp only[RM]at h;obtain⟨v',h1,h2,h3,h4,h5⟩:=Ada hs h;exact⟨v',h5,h2,h3,rfl⟩
theorem jR(hr:RX σ tm M st):∀{xs:List AL}{K:w_->Prop},cH tm M b9 xs K->∃vs,(xs.map st.ev).mapM (DD (st.own.u7 b9) true)=some vs/\K vs
 |[],K,h=>⟨[],rfl,h⟩
 |x::r,K,h=>by
  obtain⟨v',h1,h2,h3,_⟩:=jO hr.sat (show RM true M b9 (ex tm x) λv=>cH tm M b9 r λvs=>K (v::vs)from h);obtain⟨l',h4,h5⟩:=jR hr h2;refine⟨v'::l',?_,h5⟩;rw[va,na,hr.ev rfl h3,h1,h4];rfl
theorem Anm(hs:IE σ st.own M){v:AV}{K:AV->Prop}(h:jQ M b9 v K):∃v',QI (st.own.u7 b9) true (BD σ v)=some v'/\K v'/\v ≠ .any/\BD σ v=BN σ v:=by
 cases v with
 |nil=>exact⟨.nil,rfl,h,G',rfl⟩
 |_=>
  simp only[jQ]at h;obtain⟨v',h1,h2,h3,h4⟩:=jO hs h;exact⟨v',h1,h2,h3,h4⟩
theorem Adf(hr:RX σ tm M st):∀{xs:List AL}{K:w_->Prop},rW tm M b9 xs K->∃vs,(xs.map st.ev).mapM (QI (st.own.u7 b9) true)=some vs/\K vs
 |[],K,h=>⟨[],rfl,h⟩
 |x::r,K,h=>by
  obtain⟨v',h1,h2,h3,_⟩:=Anm hr.sat (show jQ M b9 (ex tm x) λv=>rW tm M b9 r λvs=>K (v::vs)from h);obtain⟨l',h4,h5⟩:=Adf hr h2;refine⟨v'::l',?_,h5⟩;rw[va,na,hr.ev rfl h3,h1,h4];rfl
theorem YC(hr:RX σ tm M st):∀{xs:List AL}{K:w_->Prop},WA tm xs K->∃vs,xs.map st.ev=vs.map (BD σ)/\K vs
 |[],K,h=>⟨[],rfl,h⟩
 |x::r,K,h=>by
  obtain⟨h1,h2⟩:=gB (show fV (ex tm x) λv=>WA tm r λvs=>K (v::vs)from h);obtain⟨vs,h3,h4⟩:=YC hr h2;exact⟨ex tm x::vs,by rw[va,va,hr.ev rfl h1,h3],h4⟩
theorem vQ{v:AV}(h:AY v):BA σ v=v:=by
 cases v<;>first|rfl|(simp only[AY]at h)
theorem vO:∀{l:w_},BK l->l.map (BA σ)=l
 |[],_=>rfl
 |v::r,h=>by
  simp only[BK]at h;rw[va,vQ h.1,vO h.2]
theorem vR{v:AV}(h:AY v):BN σ v=v:=by
 cases v with
 |agg cs=>simp only[AY]at h;simp only[BN,vO h]
 |fn p f g cs=>simp only[AY]at h
 |_=>exact vQ (σ:=σ) h
theorem vP:∀{l:w_},BK l->l.map (BN σ)=l
 |[],_=>rfl
 |v::r,h=>by
  simp only[BK]at h;rw[va,vR h.1,vP h.2]
theorem lJ{v:AV}(h:AY v):BD σ v=v:=by
 cases v with
 |j5 cs=>simp only[AY]at h;simp only[BD,vP h]
 |_=>exact vR (σ:=σ) h
theorem Yo{I:w_->Option (AV×Own)}{vs:w_}{r:AV}(h:JW I vs=some r):AY r:=by
 unfold JW at h;split at h
 ·split at h
  ·split at h
   ·obtain rfl:=ta h
    assumption
   ·cases h
  ·cases h
 ·cases h
theorem Ev.clean{f:Nat}{vs:w_}{r:AV}(h:Ev L f vs r):AY r:=by
 obtain⟨n,h⟩:=h;unfold F9 OA at h;split at h
 ·unfold N9 at h
  split at h
  ·split at h
   ·rename_i r1 r2 h1 h2
    split at h
    ·obtain rfl:=ta h
     exact Yo h1
    ·cases h
   ·cases h
  ·exact Yo h
 ·split at h
  ·split at h
   ·obtain rfl:=ta h
    assumption
   ·cases h
  ·cases h
theorem RX.put(h:RX σ tm M st)(d:Nat){v v':AV}(e:v'=BD σ v):RX σ ((d,v)::tm) M ⟨kv st.tm d v',st.own⟩:=by
 refine⟨λj=>?_,h.sat⟩;simp only[tg,cQ];cases hb:za j d
 ·rw[if_neg (F7.1 hb)];exact h.tm j
 ·rw[if_pos (BO.1 hb)];exact Or.inr e
theorem Yd:∀{cs:w_},bN cs=true->cs.map (BD σ)=cs.map (BA σ)
 |[],_=>rfl
 |v::r,h=>by
  simp only[bN]at h;cases hv:qE v<;>simp only[hv,cond_true,cond_false]at h
  ·cases h
  ·rw[va,va,Yd h]
   cases v<;>first|rfl|(simp[qE]at hv)
theorem Ah8{v:AV}(h:HD v=true):BA σ v=v:=by cases v<;>first|rfl|(simp[HD]at h)
theorem xJ:∀{cs:w_},cs.all HD=true->cs.map (BA σ)=cs
 |[],_=>rfl
 |c::r,h=>by
  simp only[Hc,Oa]at h;rw[va,Ah8 h.1,xJ h.2]
theorem xK:∀{vs:w_},vs.all dq=true->vs.map (BD σ)=vs
 |[],_=>rfl
 |v::r,h=>by
  simp only[Hc,Oa]at h;rw[va,xK h.2];congr 1;cases v with
  |agg cs=>simp only[BD,BN,xJ (show cs.all HD=true from h.1)]
  |_=>first|rfl|(simp[dq,HD]at h)
theorem Alw{r:AV}(hc:AY r)(hf:KS r):BD σ (Aa r)=Aa r:=by
 cases r with
 |agg cs=>
  simp only[Aa,BD,BN];congr 1;rw[zb];refine Na λc vp=>?_
  have:=hf c vp
  cases c<;>first|rfl|exact this.elim
 |_=>first|rfl|exact hf.elim
theorem Alr{c:AV}(h:AY c):BA σ (H1 c)=H1 c:=by
 cases c<;>first|(simp only[H1,BA];done)|(simp only[AY]at h;done)
theorem oY{r:AV}(h:AY r)(hd:dB r):BN σ (KE r)=KE r:=by
 cases r with
 |agg cs=>
  simp only[AY]at h;have:∀cs:w_,BK cs->(JJ cs).map (BA σ)=JJ cs:=by
   intro cs;induction cs with
   |nil=>intro _;simp[JJ]
   |cons c l ih=>
    intro h;simp only[BK]at h;rw[JJ,va,ih h.2,Alr h.1]
  simp only[KE,BN,this cs h]
 |j5=>exact hd.elim
 |fn=>exact hd.elim
 |_=>first|(simp only[KE,H1,BN,BA];done)|(simp only[AY]at h;done)
theorem Alt{r:AV}(h:AY r)(hd:U9 r):BD σ (L5 r)=L5 r:=by
 cases r with
 |j5 vs=>
  simp only[AY]at h;have:∀vs:w_,BK vs->(∀v∈vs,dB v)->(vs.map KE).map (BN σ)=vs.map KE:=by
   intro vs;induction vs with
   |nil=>intro _ _;rfl
   |cons v l ih=>
    intro h hd;simp only[BK]at h;rw[va,va,ih h.2 λx hx=>hd x (qb _ hx),oY h.1 (hd v Ib)]
  simp only[L5,BD,this vs h hd]
 |fn=>exact hd.elim
 |agg cs=>exact oY h trivial
 |_=>first|exact oY h trivial|(simp only[L5,KE,H1,BD,BN,BA];done)|(simp only[AY]at h;done)
theorem Alu{r:AV}(h:AY r)(hd:KS r\/U9 r):BD σ (N3 r)=N3 r:=by
 by_cases hf:KS r
 ·rw[pA hf];exact Alw h hf
 ·rw[oZ hf];exact Alt h (hd.resolve_left hf)
theorem Rp:∀{l:w_},gP l=true->l.map (BD σ)=l
 |[],_=>rfl
 |.int _ _::r,h=>by
  rw[va,Rp (l:=r) h];rfl
theorem Ub{s:Nat}:∀{M:Mem},YV s M=true->∀k s' c,e8 M k=some (s',c)->s'≠s
 |[],_,_,_,_,e=>by cases e
 |(k0,s0,c0)::r,h,k,s',c,e=>by
  simp only[YV]at h;cases hb:za s0 s<;>simp only[hb,cond_true,cond_false]at h
  ·simp only[e8]at e
   cases hk:za k k0<;>simp only[hk,cond_true,cond_false]at e
   ·exact Ub h k s' c e
   ·obtain⟨rfl,_⟩:=Prod.mk.inj (ta e)
    exactλe2=>by rw[e2]at hb;simp at hb
  ·cases h
theorem IE.Bn{σ:GJ}{own Jk:Own}{M:Mem}{s:Nat}(h:IE σ own M)(hl:FG s=false)(hn:YV s M=true)(ho:∀q,q≠s->Jk q=own q):IE σ Jk M:=by
 have q6:∀k t c,c8 M k t=some c->(σ k t).1≠s:=λk t c e=>by
  cases hr:c.isRow with
  |true=>
   intro e2;have:=h.low k t c e hr
   rw[e2,hl]at this;cases this
  |false=>
   obtain⟨s',c0,g,g1,g2⟩:=JL e;cases t with
   |zero=>rw[h.site k s' c0 g];exact Ub hn k s' c0 g
   |succ i=>
    obtain⟨rows,z,es,_,_,rfl⟩:=g2 i rfl;cases hr
 exact⟨h.site,λk t c e=>by rw[ho _ (q6 k t c e)];exact h.c9 k t c e,λk t c e=>by rw[ho _ (q6 k t c e)];exact h.old k t c e,h.inj,h.low⟩
theorem AfF{K:AV->Mem->Prop}(hr:RX σ tm M st){op:EF}(h:XE L tm M b9 K op):BR L tm b9 K op st\/(∃f xs,op = .call f xs)\/(∃f xs,op = .j6 f xs)\/(∃x xs,op = .v8 x xs)\/(∃f xs,op = .o8 f xs)\/(∃s f xs,op = .y5 s f xs)\/∃s f xs,op = .dh s f xs:=by
 cases op with
 |call f xs=>exact Or.inr (Or.inl ⟨_,_,rfl⟩)
 |j6 f xs=>exact Or.inr (Or.inr (Or.inl ⟨_,_,rfl⟩))
 |v8 x xs=>exact Or.inr (Or.inr (Or.inr (Or.inl ⟨_,_,rfl⟩)))
 |o8 f xs=>exact Or.inr (Or.inr (Or.inr (Or.inr (Or.inl ⟨_,_,rfl⟩))))
 |y5 s f xs=>exact Or.inr (Or.inr (Or.inr (Or.inr (Or.inr (Or.inl ⟨_,_,_,rfl⟩)))))
 |dh s f xs=>exact Or.inr (Or.inr (Or.inr (Or.inr (Or.inr (Or.inr ⟨_,_,_,rfl⟩)))))
 |qt s n x v=>exact Or.inl (AfX hr h)
 |dw s z b x y=>exact Or.inl (Afv hr h)
 |uh ne x=>exact Or.inl (AfH hr h)
 |bad=>exact(show False from h).elim
 |mg x=>exact Or.inl (AfS hr h)
 |qo s=>exact Or.inl (AfN hr h)
 |oa z b x y=>exact Or.inl (Afs hr h)
 |fm fs f z x c=>exact Or.inl (AfW hr h)
 |ru x k=>exact Or.inl (AfO hr h)
 |qp x k v=>exact Or.inl (AfR hr h)
 |jg tb x=>exact Or.inl (AfU hr h)
 |qm p f xs=>exact Or.inl (AfM hr h)
 |q9 x=>exact Or.inl (AfQ hr h)
 |ak s z=>exact Or.inl (AfZ hr h)
 |pick c a b=>exact Or.inl (AfT hr h)
 |bin o x y=>exact Or.inl (Afx hr h)
 |beq ne x y=>exact Or.inl (Afw hr h)
 |un o x=>exact Or.inl (AfY hr h)
 |conv k x=>exact Or.inl (AfB hr h)
 |box s x=>exact Or.inl (Afy hr h)
 |alloc s z=>exact Or.inl (Afr hr h)
 |build z ps=>exact Or.inl (AfA hr h)
 |b8 s z ps=>exact Or.inl (Afz hr h)
 |lit z ps=>exact Or.inl (AfK hr h)
 |o4 x o=>exact Or.inl (AfD hr h)
 |og x o n a=>exact Or.inl (AfE hr h)
 |u4 a z x i=>exact Or.inl (AfG hr h)
 |ld a n x=>exact Or.inl (AfI hr h)
 |st n x v=>exact Or.inl (uK hr h)
 |mk s z b ze l c=>exact Or.inl (AfL hr h)
 |iz z x lo hi=>exact Or.inl (AfV hr h)
 |ext x i=>exact Or.inl (AfC hr h)
 |len x=>exact Or.inl (AfJ hr h)
 |mm m xs=>exact Or.inl (AfP hr h)
 |app s z b x y=>exact Or.inl (Aft hr h)
theorem kS{K:AV->Mem->Prop}(hr:RX σ tm M st){op:EF}{d:Option Nat}{g:Option (Nat×Bool)}{l:List AI}{k:List It}{Q:St->Prop}(h:XE L tm M b9 K op)(hg:GL st g=some true)
  (hk:∀σ' v v' M' q8,K v M'->v'=BD σ' v->RX σ' tm M' ⟨st.tm,q8⟩->AO L l k ⟨((⟨st.tm,q8⟩:St).dst d v').tm,q8⟩ Q):AO L (⟨d,op,g,b9⟩::l) k st Q:=by
 rcases AfF hr h with⟨E,σ',v,M',h1,h2,h3,h4⟩|⟨f,xs,rfl⟩|⟨f,xs,rfl⟩|⟨x,xs,rfl⟩|⟨f,xs,rfl⟩|⟨s,f,xs,rfl⟩|⟨s,f,xs,rfl⟩
 ·rw[AeM hg h1,lA]
  have:=hk σ' v _ M' _ h2 h3 h4
  cases d<;>exact this
 ·simp only[XE]at h
  obtain⟨vs,h1,r,h2,h3⟩:=jR hr h;rw[AeC hg h1 h2];have:=hk σ r r M st.own h3 (lJ h2.clean).symm hr
  cases d<;>exact this
 ·simp only[XE]at h
  split at h
  ·rename_i s
   obtain⟨vs,h1,hF,⟨hl,hn⟩,h2⟩:=YC hr h;have fi:IE σ (st.own.put s ⟨0,λ_=>none⟩) M:=hr.sat.Bn hl hn λq hq=>by simp[Own.put,hq]
   obtain⟨r,q8,σ',M',⟨n,h3⟩,h4,h5,wi,h6⟩:=h2 σ _ fi;rw[<-h1]at h3;refine AeB hg (r:=BD σ' r) (o':=q8.put s ⟨0,λ_=>none⟩) (by simp[Own.put]) ⟨n,λo ho=>?_⟩ ?_
   ·rw[hF n _ _ o _ _ (λt=>by simp[Own.get,Own.put]) (λq hq=>by rw[ho q hq];simp[Own.put,hq]) h3]
    congr 2;funext q
    simp only[Own.put];split<;>rfl
   ·have:=hk σ' r _ M' ((q8.put s ⟨0,λ_=>none⟩).put s (st.own s)) h6 rfl ⟨λj=>by rw[h5 j];exact hr.tm j,h4.Bn hl wi λq hq=>by simp[Own.put,hq]⟩
    cases d<;>exact this
  ·rename_i hb
   obtain⟨vs,h1,h2⟩:=YC hr h;obtain⟨r,q8,σ',M',h3,h4,h5,h6⟩:=h2 σ st.own hr.sat;rw[<-h1]at h3;rw[AeE (λs e=>hb s e) hg h3];have:=hk σ' r _ M' q8 h6 rfl ⟨λj=>by rw[h5 j];exact hr.tm j,h4⟩
   cases d<;>exact this
 ·simp only[XE]at h
  split at h
  ·rename_i f g' e1
   obtain⟨h0,h⟩:=h;obtain⟨vs,h1,r,h2,h3⟩:=jR hr h;have e2:=hr.ev e1 G';rw[cD,Ba,h0]at e2;rw[AeF hg e2 h1 h2];have:=hk σ r r M st.own h3 (lJ h2.clean).symm hr
   cases d<;>exact this
  ·rename_i f g' c cs e1
   obtain⟨h0,h⟩:=h;obtain⟨v',h1,h,_,_⟩:=jO hr.sat h;obtain⟨vs,h2,r,h3,h4⟩:=jR hr h;have e2:=hr.ev e1 G';rw[cD,h0]at e2;have h5:(AV.agg (c::cs |>.map (BA σ))::xs.map st.ev).mapM (DD st.own true)=some (v'::vs):=by
    rw[na,show DD st.own true (AV.agg (c::cs |>.map (BA σ)))=some v' from h1,show(xs.map st.ev).mapM (DD st.own true)=some vs from h2];rfl
   rw[AeD hg e2 h5 h3];have:=hk σ r r M st.own h4 (lJ h3.clean).symm hr
   cases d<;>exact this
  ·rename_i f g' cs e1
   cases ho:bN cs<;>simp only[ho,cond_true,cond_false]at h;obtain⟨h0,h⟩:=h;obtain⟨vs,h1,h2⟩:=YC hr h;rw[JH]at h2;obtain⟨r,q8,σ',M',h3,h4,h5,h6⟩:=h2 σ st.own hr.sat;rw[Oc,<-h1,Yd (σ:=σ) ho]at h3;have e2:=hr.ev e1 G';rw[cD,h0]at e2;rw[AeI hg e2 h3];have:=hk σ' r _ M' q8 h6 rfl ⟨λj=>by rw[h5 j];exact hr.tm j,h4⟩
   cases d<;>exact this
  ·exact h.elim
 ·simp only[XE]at h
  obtain⟨vs,h1,h2⟩:=YC hr h;cases ho:vs.all dq<;>simp only[ho,cond_true,cond_false]at h2;obtain⟨r,h3,h4,h5⟩:=h2;have e1:xs.map st.ev=vs:=by rw[h1];exact xK ho
  rw[AeG hg (by rw[e1];exact ho) (by rw[e1];exact h3) h4];have:=hk σ (N3 r) (N3 r) M st.own h5 (Alu h3.clean h4).symm hr
  cases d<;>exact this
 ·simp only[XE]at h
  cases kn:FG s<;>simp only[kn,cond_true,cond_false]at h;obtain⟨vs,h1,z,es,n,h2,rfl,h3⟩:=Adf hr h;obtain⟨k',g1,g2,g3⟩:=I8 h3;refine AeH hg h1 h2 ?_;rw[lA];have:=hk (DP σ k' λ_=>(s,st.own.j7 s)) _ (.row s (st.own.j7 s) z 0 es.length) _ _ g3 (by simp only[DZ,BZ]) (hr.iu (q:=s) g1 g2 (.rw z es) trivial rfl (λ_=>kn))
  cases d<;>exact this
 ·simp only[XE]at h
  obtain⟨vs,h1,h2⟩:=YC hr h;split at h2
  ·rename_i key rest
   cases hi:gP rest<;>simp only[hi,cond_true,cond_false]at h2;obtain⟨cells,ja,kd,n,g1,g2,g3,g4,g5⟩:=h2;have im:=hr.sat.site _ _ _ g1;have ah:=hr.sat.c9 _ _ _ (EQ g1);rw[im]at ah;simp only[BC.c9,KZ g2]at ah;have de:xs.map st.ev = .ptr s (σ key 0).2 0 0::rest:=by
    rw[h1,va,FD,im,Rp hi]
   have hE:=g4 (σ key 0).2 (st.own s) ah;refine AeJ hg (by rw[de];exact hE) ?_;rw[lA];have:=hk σ (.int kd n) (.int kd n) _ _ g5 rfl (hr.Jm g1 trivial (.bx ja) trivial (λh=>by cases h))
   simp only[BC.c9,KZ g3]at this;cases d<;>exact this
  ·exact h2.elim
theorem Akl(hr:RX σ tm M st){g:Nat}{w:Bool}{b:Bool}(e:tg tm g = .bool b):GL st (some (g,w))=some (b == w):=by
 rcases hr.tm g with h|h
 ·rw[e]at h;cases h
 ·rw[e]at h
  simp only[GL,h,I2]
theorem Akm(hr:RX σ tm M st){g:Nat}{w:Bool}(e:tg tm g = .j5 []):GL st (some (g,w))=some false:=by
 rcases hr.tm g with h|h
 ·rw[e]at h;cases h
 ·rw[e]at h
  simp only[GL,h,KN,Ba]
theorem sR{key:Nat}:∀(tm:Tm)(j:Nat),tg (Fi key tm) j = .any\/tg (Fi key tm) j=tg tm j
 |[],_=>Or.inl rfl
 |(i,v)::r,j=>by
  simp only[Fi];cases hc:R2 key v<;>cases hb:za j i;all_goals simp only[cond_true,cond_false,tg,hb]
  ·exact sR r j
  ·exact Or.inr trivial
  ·exact sR r j
  ·exact Or.inl trivial
theorem Aon{v:AV}{K:Tm->Prop}(h:xk v tm K):∃ch,(∀j,tg ch j = .any\/tg ch j=tg tm j)/\K ch:=by
 unfold xk at h;split at h
 ·rw[YE]at h
  exact⟨_,λj=>sR _ j,h⟩
 ·exact⟨_,λj=>Or.inr rfl,h⟩
theorem uL{k:List It}{Q:Tm->Mem->Prop}:∀{l:List AI}{K:Tm->Mem->Prop}{tm:Tm}{M:Mem},XO L l K tm M->(∀ch M',K ch M'->AA L k ch M' Q)->tJ L l k tm M Q
 |[],K,tm,M,h,hk=>λσ st hr=>AeK.2 (hk tm M h σ st hr)
 |o::l,K,tm,M,h,hk=>by
  intro σ st hr;have h:XI L o (XO L l) K tm M:=h;have ih:∀ch M',XO L l K ch M'->tJ L l k ch M' Q:=λch M' h'=>uL h' hk
  have some_:∀(d:Nat)(op:EF)(g:Option (Nat×Bool))(b9:u_),GL st g=some true->XE L tm M b9 (λv M=>XO L l K ((d,v)::tm) M) op->AO L (⟨some d,op,g,b9⟩::l) k st (SQ Q):=by
   intro d op g b9 hg hx;refine kS hr hx hg ?_;intro σ' v v' M' q8 h1 h2 h3;exact ih _ _ h1 σ' _ (h3.put d h2)
  have Dw:∀(d:Nat)(u:AV)(op:EF)(b9:u_),XE L tm M b9 (λv M=>xk u tm λtm=>XO L l K ((d,v)::tm) M) op->AO L (⟨some d,op,none,b9⟩::l) k st (SQ Q):=by
   intro d u op b9 hx;refine kS hr hx rfl ?_;intro σ' v v' M' q8 h1 h2 h3;obtain⟨ch,g1,g2⟩:=Aon h1;exact ih _ _ g2 σ' _ ((show RX σ' ch M' ⟨st.tm,q8⟩from⟨λj=>(g1 j).elim Or.inl λe=>by rw[e];exact h3.tm j,h3.sat⟩).put d h2)
  have none_:∀(op:EF)(g:Option (Nat×Bool))(b9:u_),GL st g=some true->XE L tm M b9 (λ_ M=>XO L l K tm M) op->AO L (⟨none,op,g,b9⟩::l) k st (SQ Q):=by
   intro op g b9 hg hx;refine kS hr hx hg ?_;intro σ' v v' M' q8 h1 h2 h3;exact ih _ _ h1 σ' _ h3
  have Bm:∀(d:Option Nat)(op:EF)(g:Option (Nat×Bool))(b9:u_),GL st g=some false->(match d with|some d=>XO L l K ((d,.j5 [])::tm) M|none=>XO L l K tm M)->AO L (⟨d,op,g,b9⟩::l) k st (SQ Q):=by
   intro d op g b9 hg hx;rw[AeL hg];cases d with
   |none=>exact ih _ _ hx σ _ hr
   |some d=>exact ih _ _ hx σ _ (hr.put d rfl)
  obtain⟨d,op,g,b9⟩:=o;cases g with
  |none=>
   cases d with
   |none=>exact none_ op none b9 rfl h
   |some d=>
    cases op with
    |app s z b x y=>exact Dw d (ex tm x) (.app s z b x y) b9 h
    |_=>exact some_ d _ none b9 rfl h
  |some gw=>
   obtain⟨g,w⟩:=gw;have h:(match tg tm g with
    |.bool b=>fB (b == w) λc=>match c,d with
     |true,some d=>XE L tm M b9 (λv M=>XO L l K ((d,v)::tm) M) op
     |true,none=>XE L tm M b9 (λ_ M=>XO L l K tm M) op
     |false,some d=>XO L l K ((d,.j5 [])::tm) M
     |false,none=>XO L l K tm M
    |.j5 []=>match d with
     |some d=>XO L l K ((d,.j5 [])::tm) M
     |none=>XO L l K tm M
    |_=>False):=by cases d<;>cases op<;>exact h
   split at h
   ·rename_i b e
    rw[SB]at h;have hg:=Akl hr (w:=w) e;cases hb:(b == w)<;>rw[hb]at h hg
    ·exact Bm d op _ b9 hg (by cases d<;>exact h)
    ·cases d with
     |none=>exact none_ op _ b9 hg h
     |some d=>exact some_ d op _ b9 hg h
   ·rename_i e
    exact Bm d op _ b9 (Akm hr e) (by cases d<;>exact h)
   ·exact h.elim
theorem kT{Q:Tm->Mem->Prop}:∀{n:Nat}{k:List It}{tm:Tm}{M:Mem},XK L Q n k tm M->AA L k tm M Q
 |0,k,tm,M,h=>h
 |n+1,[],tm,M,h=>λσ st hr=>Aev.2 ⟨σ,tm,M,hr,h⟩
 |n+1,it::k,tm,M,h=>by
  have h:XS L Q (XK L Q n) (it::k) tm M:=h;have ih:∀k tm M,XK L Q n k tm M->AA L k tm M Q:=λk tm M h=>kT h
  intro σ st hr;cases it with
  |c9 id=>exact Aen.2 (ih _ _ _ h σ st hr)
  |qa ts ss=>
   simp only[XS,AjY,YE]at h;cases ss with
   |cons s r=>exact h.elim
   |nil=>
    refine Aer.2 (ih _ _ _ h σ _ ⟨λj=>?_,hr.sat⟩);rw[cM,ZE,uU,lE,Gc];cases hc:ts.contains j
    ·simp only[vb,if_false,cond_false]
     exact hr.tm j
    ·exact Or.inl rfl
  |lp c=>exact h σ st hr
  |code c=>
   cases c with
   |skip=>exact AeA.2 (ih _ _ _ h σ st hr)
   |ops l d=>exact Aew.2 (uL h (λch M' h'=>ih _ _ _ h') σ st hr)
   |dr c ts ss=>exact Aeq.2 (ih _ _ _ h σ st hr)
   |scope c=>exact Aey.2 (ih _ _ _ h σ st hr)
   |seq a b=>exact Aez.2 (ih _ _ _ h σ st hr)
   |cond x a b=>
    simp only[XS]at h;split at h
    ·rename_i b' e
     rw[SB]at h;rw[Aep (hr.ev e G')];cases b'
     ·simpa using ih _ _ _ h σ st hr
     ·simpa using ih _ _ _ h σ st hr
    ·exact h.elim
   |block id c=>exact Aeo.2 (ih _ _ _ h σ st hr)
   |loop c=>exact Aet.2 (tH.1 (h σ st hr))
   |exit id=>
    simp only[XS]at h;split at h
    ·rename_i k' e
     exact(Aes e).2 (ih _ _ _ h σ st hr)
    ·exact h.elim
   |ret=>exact Aex.2 ⟨σ,tm,M,hr,h⟩
theorem AmL(hr:RX σ tm M st){r:LS}{K:AV->Prop}(h:bZ tm M r K):∃v,GE st r=some (BD σ v)/\K v/\BD σ v=BN σ v:=by
 cases r with
 |tmp t=>
  simp only[bZ]at h;obtain⟨h1,h2,h3⟩:=Td (σ:=σ) h;refine⟨_,?_,h3,h2⟩;rcases hr.tm t with e|e
  ·exact absurd e h1
  ·simp only[GE,e]
   cases hv:tg tm t<;>rw[hv]at h h1<;>first|rfl|exact(h:False).elim
 |cell t agg n=>
  simp only[bZ]at h;split at h
  ·rename_i key i j e
   split at h
   ·rename_i s cs hm
    cases hi:za i 0<;>simp only[hi,cond_true,cond_false]at h;obtain rfl:=BO.1 hi;split at h
    ·rename_i ds hp
     rw[JH]at h;rcases hr.tm t with e'|e'
     ·rw[e]at e';cases e'
     ·have hs:=hr.sat.site _ _ _ hm
      have ah:=hr.sat.c9 _ _ _ (EQ hm);rw[hs]at ah;have flat:∀v,NC agg (ds.map (BA σ))=some (BD σ v)->GE st (.cell t agg n)=some (BD σ v):=by
       intro v hv;simp only[GE,e',e,FD,Own.rq,Own.get,hs,ah,BC.c9,Ob,iT hp,hv]
      cases agg
      ·simp only[ti]at h
       split at h
       ·rename_i c
        obtain⟨_,h1,h2⟩:=Te (σ:=σ) h;refine⟨c,flat c (by rw[h1];rfl),h2,?_⟩;rw[h1];cases c<;>first|rfl|exact(h:False).elim
       ·exact h.elim
      ·exact⟨.agg ds,flat _ rfl,h,rfl⟩
    ·exact h.elim
   ·exact h.elim
  ·exact h.elim
theorem qX(hr:RX σ tm M st):∀{l:List LS}{K:w_->Prop},jA tm M l K->∃vs,l.mapM (GE st)=some (vs.map (BD σ))/\K vs/\vs.map (BD σ)=vs.map (BN σ)
 |[],K,h=>⟨[],rfl,h,rfl⟩
 |r::l,K,h=>by
  obtain⟨v,h1,h2,h3⟩:=AmL hr (show bZ tm M r λv=>jA tm M l λvs=>K (v::vs)from h);obtain⟨vs,h4,h5,h6⟩:=qX hr h2;exact⟨v::vs,by rw[na,h1,h4];rfl,h5,by rw[va,va,h3,h6]⟩
theorem Wv(hs:IE σ st.own M){q:Bool}:∀{l:w_}{K:w_->Prop},rT q M l K->∃l',(l.map (BD σ)).mapM (DD st.own q)=some l'/\K l'/\∀v∈l,BD σ v=BN σ v
 |[],K,h=>⟨[],rfl,h,λv hv=>by cases hv⟩
 |v::r,K,h=>by
  obtain⟨v',h1,h2,_,h0⟩:=jO hs (show RM q M [] v λv'=>rT q M r λr'=>K (v'::r')from h);obtain⟨l',h3,h4,h5⟩:=Wv hs h2;refine⟨v'::l',?_,h4,λu hu=>?_⟩
  ·rw[va,na,show DD st.own q (BD σ v)=some v' from h1,h3];rfl
  ·rcases Da.1 hu with rfl|hu
   ·exact h0
   ·exact h5 u hu
theorem Anp{own:Own}{q:Bool}{v v':AV}(h:DD own q v=some v'):UY own q v=some v':=by
 cases v with
 |j5 vs=>simp[DD,snap]at h
 |_=>exact h
theorem AlD{f:AV->Option AV}{x y:AV}{r l':w_}(h:(x::y::r).mapM f=some l'):∃a b c,l'=a::b::c:=by
 rw[na,na]at h;cases hx:f x with
 |none=>rw[hx]at h;cases h
 |some a=>
  cases hy:f y with
  |none=>rw[hx,hy]at h;cases h
  |some b=>
   cases hr:r.mapM f with
   |none=>rw[hx,hy,hr]at h;cases h
   |some c=>
    rw[hx,hy,hr]at h;exact⟨a,b,c,(ta h).symm⟩
theorem uH{fn:AFn}{r:AV}(hr:RX σ tm M st)(h:QQ fn r tm M):ZW fn r st:=by
 unfold QQ at h;obtain⟨vs,h1,h2,h3⟩:=qX hr h;obtain⟨l',h4,h5,h6⟩:=Wv hr.sat h2;unfold ZW;rw[h1,sa,nc];match vs,l',h4,h5 with
 |[],l',h4,h5=>
  obtain rfl:=ta h4;obtain⟨e,hc⟩:=h5;exact⟨by rw[<-e];rfl,hc⟩
 |[v],l',h4,h5=>
  rw[va,Ba,na]at h4;cases hv:DD st.own false (BD σ v)with
  |none=>rw[hv]at h4;cases h4
  |some v'=>
   rw[hv]at h4;obtain rfl:=ta h4;obtain⟨e,hc⟩:=h5;exact⟨by rw[<-e];exact Anp hv,hc⟩
 |v::u::w,l',h4,h5=>
  obtain⟨a,b,c,rfl⟩:=AlD (show Qc (DD st.own false) (BD σ v::BD σ u::w.map (BD σ))=some l' from h4);obtain⟨e,hc⟩:=h5;refine⟨?_,hc⟩;rw[<-e];have h4:Qc (DD st.own false) (BD σ v::BD σ u::w.map (BD σ))=some (a::b::c):=h4;show Option.map AV.j5 (Qc (DD st.own false) (BD σ v::BD σ u::w.map (BD σ)))=_;rw[h4];rfl
def R7:AV->Bool
 |.agg cs=>E1 cs
 |v=>vh v
def MP:w_->Bool
 |[]=>true
 |v::r=>bif R7 v then MP r else false
theorem eU{v:AV}(h:R7 v=true):BD σ v=v:=by
 cases v with
 |agg cs=>simp only[R7]at h;simp only[BD,BN,KZ h]
 |_=>first|rfl|cases h
theorem aE{σ:GJ}:∀{vs:w_}{i:Nat},MP vs=true->∀j,j8 (CU i vs) j=BD σ (j8 (CU i vs) j)
 |[],_,_,_=>rfl
 |v::r,i,h,j=>by
  simp only[MP]at h;cases hv:R7 v<;>simp only[hv,cond_true,cond_false]at h
  ·cases h
  ·simp only[AkE,cP]
   split
   ·exact(eU hv).symm
   ·exact aE h j
theorem G8.x{f:Nat}{fn:AFn}{vs:w_}{r:AV}(hL:L f=some fn)(hp:za vs.length fn.cr=true)(hd:MP vs=true)(h:AA L [.code fn.body] (CU 0 vs) [] (QQ fn r)):G8 L f vs r:=by
 refine G8.fwd hL (BO.1 hp) (Aeu (h (λ_ _=>(0,0)) ⟨CU 0 vs,Own.emp⟩ ⟨λj=>Or.inr ?_,?_⟩) ?_)
 ·rw[ME];exact aE hd j
 ·exact⟨(λ_ _ _ e=>by cases e),(λ_ _ _ e=>by simp[c8,e8]at e),(λ_ _ _ e=>by simp[c8,e8]at e),(λ_ _ _ _ _ _ e=>by simp[c8,e8]at e),(λ_ _ _ e=>by simp[c8,e8]at e)⟩
 ·rintro s ⟨σ,tm,M,hr,hq⟩
  exact uH hr hq
theorem Ev.x{f:Nat}{fn:AFn}{vs:w_}{r:AV}(hL:L f=some fn)(hp:za vs.length fn.cr=true)(hd:MP vs=true)(h:AA L [.code fn.body] (CU 0 vs) [] (QQ fn r))(hs:fn.tk=false:=by rfl):Ev L f vs r:=(G8.x hL hp hd h).ev hL hs
def G3:List (Nat×Nat)->Nat->Nat
 |[],k=>k
 |(a,b)::r,k=>bif za k a then b else G3 r k
def jD(τ:List (Nat×Nat)):AV->AV
 |.row k t z o n=>.row (G3 τ k) t z o n
 |.ptr k t i j=>.ptr (G3 τ k) t i j
 |.mp k t=>.mp (G3 τ k) t
 |v=>v
def UW(τ:List (Nat×Nat)):w_->w_
 |[]=>[]
 |v::r=>jD τ v::UW τ r
def Y4(τ:List (Nat×Nat)):AV->AV
 |.agg cs=>.agg (UW τ cs)
 |.fn p f g cs=>.fn p f g (UW τ cs)
 |v=>jD τ v
def jF(τ:List (Nat×Nat)):w_->w_
 |[]=>[]
 |v::r=>Y4 τ v::jF τ r
def jE(τ:List (Nat×Nat)):AV->AV
 |.j5 cs=>.j5 (jF τ cs)
 |v=>Y4 τ v
def jG(τ:List (Nat×Nat)):v_->v_
 |[]=>[]
 |v::r=>UW τ v::jG τ r
def L8(τ:List (Nat×Nat)):BC->BC
 |.bx cs=>.bx (UW τ cs)
 |.rw z es=>.rw z es
 |.bs z es=>.bs z (jG τ es)
 |.mx rows=>.mx rows
 |.hx i v rows=>.hx i v rows
 |.vw w rows=>.vw w rows
variable {τ:List (Nat × Nat)}
theorem cA:∀l:w_,UW τ l=l.map (jD τ)
 |[]=>rfl
 |v::r=>by rw[UW,cA r];rfl
theorem Ww:∀l:w_,jF τ l=l.map (Y4 τ)
 |[]=>rfl
 |v::r=>by rw[jF,Ww r];rfl
theorem jX(v:AV):BA (λk t=>σ (G3 τ k) t) v=BA σ (jD τ v):=by cases v<;>rfl
theorem sF(v:AV):BN (λk t=>σ (G3 τ k) t) v=BN σ (Y4 τ v):=by
 cases v with
 |agg cs=>simp only[BN,Y4,cA,zb];exact congrArg AV.agg (Na λv _=>jX v)
 |fn p f g cs=>simp only[BN,Y4,cA,zb];exact congrArg (AV.fn p f g) (Na λv _=>jX v)
 |_=>rfl
theorem AnC(v:AV):BD (λk t=>σ (G3 τ k) t) v=BD σ (jE τ v):=by
 cases v with
 |j5 cs=>simp only[BD,jE,Ww,zb];exact congrArg AV.j5 (Na λv _=>sF v)
 |agg cs=>exact sF (.agg cs)
 |fn p f g cs=>exact sF (.fn p f g cs)
 |_=>rfl
theorem Wx:∀l:v_,jG τ l=l.map (UW τ)
 |[]=>rfl
 |v::r=>by rw[jG,Wx r];rfl
theorem bI{k:Nat}:∀(rows:List (p_))(i:Nat),CP (λk t=>σ (G3 τ k) t) k i rows=CP σ (G3 τ k) i rows
 |[],i=>rfl
 |none::r,i=>by rw[CP,CP,bI r]
 |some (z,es)::r,i=>by rw[CP,CP,bI r]
theorem Ago(c:BC)(k:Nat):c.c9 (λk t=>σ (G3 τ k) t) k=(L8 τ c).c9 σ (G3 τ k):=by
 cases c with
 |bx cs=>
  simp only[BC.c9,L8,cA,Ia,zb];rw[Na λv _=>jX v];rfl
 |rw z es=>rfl
 |bs z es=>
  simp only[BC.c9,L8,Wx,zb];congr 1;refine Na λcs _=>?_
  simp only[xd,cA,zb];exact Na λv _=>jX v
 |mx rows=>simp only[BC.c9,L8,bI]
 |hx i v rows=>simp only[BC.c9,L8,bI]
 |vw w rows=>simp only[BC.c9,L8,bI]
def xj(k s:Nat)(c:BC):Mem->Mem
 |[]=>[(k,s,c)]
 |(j,s',c')::r=>bif za k j then(k,s,c)::r else(j,s',c')::xj k s c r
def uj:Mem->Mem
 |[]=>[]
 |(k,s,c)::r=>xj k s c (uj r)
def YQ:Mem->(Mem->Prop)->Prop
 |[],K=>K []
 |(k,s,c)::r,K=>YQ r λr'=>fM (xj k s c r') K
theorem gZ:∀(M:Mem)(K:Mem->Prop),YQ M K=K (uj M)
 |[],_=>rfl
 |(k,s,c)::r,K=>by rw[YQ,gZ r,N0];rfl
theorem Ut(k s:Nat)(c:BC)(j:Nat):∀M:Mem,e8 (xj k s c M) j=bif za j k then some (s,c)else e8 M j
 |[]=>rfl
 |(i,s',c')::r=>by
  simp only[xj];cases hk:za k i
  ·simp only[cond_false,e8,Ut k s c j r]
   cases hj:za j i<;>cases hjk:za j k<;>simp only[cond_true,cond_false];exact absurd ((BO.1 hjk).symm.trans (BO.1 hj)) (F7.1 hk)
  ·obtain rfl:=BO.1 hk
   simp only[cond_true,e8];cases za j k<;>rfl
theorem YR(j:Nat):∀M:Mem,e8 (uj M) j=e8 M j
 |[]=>rfl
 |(k,s,c)::r=>by simp only[uj,Ut,YR j r,e8]
theorem iE(k t:Nat):c8 (uj M) k t=c8 M k t:=by simp only[c8,YR]
def Ab(τ:List (Nat×Nat))(M:Mem):List (Nat×Nat×BC)->List (Option (Nat×BC))
 |[]=>[]
 |(k,_,_)::r=>e8 M (G3 τ k)::Ab τ M r
def Ac(τ:List (Nat×Nat)):List (Nat×Nat×BC)->List (Option (Nat×BC))
 |[]=>[]
 |(_,s,c)::r=>some (s,L8 τ c)::Ac τ r
def Lp(tm:Tm):Tm->w_
 |[]=>[]
 |(j,_)::r=>tg tm j::Lp tm r
def Lq(τ:List (Nat×Nat)):Tm->w_
 |[]=>[]
 |(_,v)::r=>jE τ v::Lq τ r
def iK:u_->Bool
 |[]=>true
 |k::r=>bif LA k r then false else iK r
def keys(τ:List (Nat×Nat)):Mem->u_
 |[]=>[]
 |(k,_,_)::r=>G3 τ k::keys τ r
theorem Uq:∀{M':Mem}{M:Mem},Ab τ M M'=Ac τ M'->∀k s c,e8 M' k=some (s,c)->e8 M (G3 τ k)=some (s,L8 τ c)
 |[],_,_,_,_,_,e=>by cases e
 |(i,s',c')::r,M,h,k,s,c,e=>by
  simp only[Ab,Ac,Nc]at h;simp only[e8]at e;cases hb:za k i<;>simp only[hb,cond_true,cond_false]at e
  ·exact Uq h.2 k s c e
  ·simp only[xa,Qa]at e
   obtain⟨rfl,rfl⟩:=e;rw[BO.1 hb];exact h.1
theorem pG:∀{M:Mem}{k s:Nat}{c:BC},e8 M k=some (s,c)->LA (G3 τ k) (keys τ M)=true
 |(i,s',c')::r,k,s,c,e=>by
  simp only[e8]at e;simp only[keys,LA];cases hb:za k i<;>simp only[hb,cond_true,cond_false]at e
  ·rw[pG e];cases za (G3 τ k) (G3 τ i)<;>rfl
  ·rw[BO.1 hb];simp
theorem Uc:∀{M:Mem},iK (keys τ M)=true->∀{k k' s s':Nat}{c c':BC},e8 M k=some (s,c)->e8 M k'=some (s',c')->G3 τ k=G3 τ k'->k=k'
 |[],_,_,_,_,_,_,_,e,_,_=>by cases e
 |(i,s0,c0)::r,h,k,k',s,s',c,c',e,e',hk=>by
  simp only[keys,iK]at h;cases hm:LA (G3 τ i) (keys τ r)<;>simp only[hm,cond_true,cond_false]at h
  ·simp only[e8]at e e'
   cases hb:za k i<;>cases j9:za k' i<;>simp only[hb,j9,cond_true,cond_false]at e e'
   ·exact Uc h e e' hk
   ·obtain rfl:=BO.1 j9
    have:=pG (τ:=τ) e
    rw[hk,hm]at this;cases this
   ·obtain rfl:=BO.1 hb
    have:=pG (τ:=τ) e'
    rw[<-hk,hm]at this;cases this
   ·exact(BO.1 hb).trans (BO.1 j9).symm
  ·cases h
theorem Zp:∀{ch:Tm}{tm:Tm},Lp tm ch=Lq τ ch->∀j,tg ch j = .any\/tg tm j=jE τ (tg ch j)
 |[],_,_,_=>Or.inl rfl
 |(i,v)::r,tm,h,j=>by
  simp only[Lp,Lq,Nc]at h;simp only[tg];cases hb:za j i<;>simp only[cond_true,cond_false]
  ·exact Zp h.2 j
  ·rw[BO.1 hb];exact Or.inr h.1
def aj(ts:u_)(tm:Tm):Tm:=match ts with
 |[]=>tm
 |t::ts=>xp (mask 0 (t::ts)) tm
def LU(τ:List (Nat×Nat))(tm:Tm)(M:Mem)(ch:Tm)(M':Mem):Prop :=
 fT (xp 0 ch) λl=>YQ M' λm=>Lp tm l=Lq τ l/\Ab τ M m=Ac τ m/\iK (keys τ m)=true
theorem BB{k:List It}{ch:Tm}{M':Mem}{Q:Tm->Mem->Prop}(τ:List (Nat×Nat))(he:LU τ tm M ch M')(h:AA L k ch M' Q):AA L k tm M Q:=by
 unfold LU at he;rw[YE,gZ]at he;obtain⟨ht,hm,hn⟩:=he;intro σ st hr;have hg:∀k s c,e8 M' k=some (s,c)->e8 M (G3 τ k)=some (s,L8 τ c):=λk s c e=>Uq hm k s c (by rw[YR];exact e)
 have Hg:∀k t c,c8 M' k t=some c->c8 M (G3 τ k) t=some (L8 τ c):=by
  intro k t c e;obtain⟨s,c0,g1,g2,g3⟩:=JL e;have:=hg k s c0 g1
  cases t with
  |zero=>rw[g2 rfl];exact EQ this
  |succ i=>
   obtain⟨rows,z,es,(rfl|⟨a,v,rfl⟩)|⟨w,rfl⟩,hr,rfl⟩:=g3 i rfl
   ·simp[c8,this,L8,hr]
   ·simp[c8,this,L8,hr]
   ·simp[c8,this,L8,hr]
 refine h (λk t=>σ (G3 τ k) t) st ⟨λj=>?_,⟨?_,?_,?_,?_,?_⟩⟩
 ·have:=Zp ht j
  rw[cM,lE,cond_false]at this;rcases this with e|e
  ·exact Or.inl e
  ·rcases hr.tm j with e'|e'
   ·left
    rw[e']at e;cases hv:tg ch j<;>rw[hv]at e<;>first|rfl|cases e
   ·right
    rw[e',e,AnC]
 ·intro k s c e;exact hr.sat.site _ _ _ (hg k s c e)
 ·intro k t c e;rw[Ago];exact hr.sat.c9 _ _ _ (Hg k t c e)
 ·intro k t c e;exact hr.sat.old _ _ _ (Hg k t c e)
 ·intro k t k' t' c c' e e' hk
  obtain⟨q1,q2⟩:=hr.sat.inj _ _ _ _ _ _ (Hg _ _ _ e) (Hg _ _ _ e') hk;obtain⟨s,c0,g,_⟩:=JL e;obtain⟨s',c0',g',_⟩:=JL e';exact⟨Uc hn (by rw[YR];exact g) (by rw[YR];exact g') q1,q2⟩
 ·intro k t c e hw
  exact hr.sat.low _ _ _ (Hg k t c e) (by cases c<;>exact hw)
theorem BF{k:List It}{ch:Tm}{M':Mem}{Q:Tm->Mem->Prop}(τ:List (Nat×Nat))(h:AA L k ch M' Q)(he:LU τ tm M ch M':=by(conv=>whnf);exact⟨rfl,rfl,rfl⟩):AA L k tm M Q:=BB τ he h
theorem tE{k:List It}{Q:Tm->Mem->Prop}(h:AA L k (xp 0 tm) (uj M) Q):AA L k tm M Q:=by
 intro σ st hr;refine h σ st ⟨λj=>?_,⟨?_,?_,?_,?_,?_⟩⟩
 ·rw[cM,lE,cond_false];exact hr.tm j
 ·intro k s c e;rw[YR]at e;exact hr.sat.site _ _ _ e
 ·intro k t c e;rw[iE]at e;exact hr.sat.c9 _ _ _ e
 ·intro k t c e;rw[iE]at e;exact hr.sat.old _ _ _ e
 ·intro k t k' t' c c' e e' hk
  rw[iE]at e e';exact hr.sat.inj _ _ _ _ _ _ e e' hk
 ·intro k t c e hw;rw[iE]at e;exact hr.sat.low _ _ _ e hw
def xn(k:Nat)(c:BC):Mem->Mem
 |[]=>[]
 |(j,s,c')::r=>bif za k j then(j,s,c)::r else(j,s,c')::xn k c r
theorem iA{k j s:Nat}{c c':BC}:∀{M:Mem},e8 (xn k c M) j=some (s,c')->∃c0,e8 M j=some (s,c0)/\(c0=c'\/(j=k/\c'=c))
 |[],e=>by cases e
 |(i,s0,c0)::r,e=>by
  simp only[xn]at e;cases hk:za k i<;>simp only[hk,cond_true,cond_false,e8]at e⊢
  ·cases hj:za j i<;>simp only[hj,cond_true,cond_false]at e⊢
   ·exact iA e
   ·exact⟨c',e,Or.inl rfl⟩
  ·cases hj:za j i<;>simp only[hj,cond_true,cond_false]at e⊢
   ·exact⟨c',e,Or.inl rfl⟩
   ·simp only[xa,Qa]at e
    obtain⟨rfl,rfl⟩:=e;exact⟨c0,rfl,Or.inr ⟨(BO.1 hj).trans (BO.1 hk).symm,rfl⟩⟩
theorem Ael{kk:List It}{Q:Tm->Mem->Prop}(k s:Nat)(e:e8 M k=some (s,.rw 1 []))(h:AA L kk tm (xn k (.mx []) M) Q):AA L kk tm M Q:=by
 intro σ st hr;have hg:∀j t c,c8 (xn k (.mx []) M) j t=some c->∃c0,c8 M j t=some c0/\c0.c9 σ j=c.c9 σ j:=by
  intro j t c g;obtain⟨s1,c1,g1,g2,g3⟩:=JL g;obtain⟨c0,q1,q2⟩:=iA g1;cases t with
  |zero=>
   rw[g2 rfl];rcases q2 with rfl|⟨rfl,rfl⟩
   ·exact⟨_,EQ q1,rfl⟩
   ·rw[e]at q1
    simp only[xa,Qa]at q1;obtain⟨rfl,rfl⟩:=q1;exact⟨_,EQ e,rfl⟩
  |succ i=>
   obtain⟨rows,z,es,(rfl|⟨a,v,rfl⟩)|⟨w,rfl⟩,Dk,rfl⟩:=g3 i rfl
   ·rcases q2 with rfl|⟨rfl,h0⟩
    ·exact⟨.rw z es,by simp[c8,q1,Dk],rfl⟩
    ·obtain rfl:rows=[]:=by simpa using h0
     simp at Dk
   ·rcases q2 with rfl|⟨rfl,h0⟩
    ·exact⟨.rw z es,by simp[c8,q1,Dk],rfl⟩
    ·cases h0
   ·rcases q2 with rfl|⟨rfl,h0⟩
    ·exact⟨.rw z es,by simp[c8,q1,Dk],rfl⟩
    ·cases h0
 refine h σ st ⟨hr.tm,⟨?_,?_,?_,?_,?_⟩⟩
 ·intro j s' c g
  obtain⟨c0,q1,_⟩:=iA g;exact hr.sat.site _ _ _ q1
 ·intro j t c g
  obtain⟨c0,q1,q2⟩:=hg j t c g;rw[<-q2];exact hr.sat.c9 _ _ _ q1
 ·intro j t c g
  obtain⟨c0,q1,_⟩:=hg j t c g;exact hr.sat.old _ _ _ q1
 ·intro j t j' t' c c' g g' hj
  obtain⟨_,q1,_⟩:=hg j t c g;obtain⟨_,q2,_⟩:=hg j' t' c' g';exact hr.sat.inj _ _ _ _ _ _ q1 q2 hj
 ·intro j t c g hw
  cases t with
  |zero=>
   obtain⟨s1,c1,g1,g2,g3⟩:=JL g;obtain⟨c0,q1,q2⟩:=iA g1;have g2:=g2 rfl;subst g2;rcases q2 with rfl|⟨rfl,rfl⟩
   ·exact hr.sat.low _ _ _ (EQ q1) hw
   ·exact hr.sat.low _ _ _ (EQ e) rfl
  |succ t=>
   obtain⟨c0,q1,_⟩:=hg _ _ _ g;exact hr.sat.low _ _ _ q1 (Ve q1)
theorem I5{k:List It}{c:BH}{Q:Tm->Mem->Prop}(h:AA L (.code c :: .lp c::k) tm M Q):AA L (.lp c::k) tm M Q:=λσ st hr=>tH.2 (h σ st hr)
theorem XH{α:Type}{k:List It}{c:BH}{Q:Tm->Mem->Prop}(m:α->Nat)(P:α->Prop)(vs:α->Tm)(Ms:α->Mem)(ts:u_)(τ:List (Nat×Nat))(a:α)
  (he:LU τ tm M (vs a++aj ts tm) (Ms a++M)) (hp:P a)
  (step:∀a,P a->(∀a',m a'<m a->P a'->AA L (.lp c::k) (vs a'++aj ts tm) (Ms a'++M) Q)->AA L (.code c :: .lp c::k) (vs a++aj ts tm) (Ms a++M) Q):AA L (.lp c::k) tm M Q:=by
 have key:∀n a,m a<n->P a->AA L (.lp c::k) (vs a++aj ts tm) (Ms a++M) Q:=by
  intro n;induction n with
  |zero=>intro a h;omega
  |succ n ih=>
   intro a ha hp;exact I5 (step a hp λa' h1 h2=>ih a' O' h2)
 exact BB τ he (key (m a+1) a O' hp)
end
end Go.e9
