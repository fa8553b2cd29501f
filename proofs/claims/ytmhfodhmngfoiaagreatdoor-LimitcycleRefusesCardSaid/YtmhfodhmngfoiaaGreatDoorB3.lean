/-
  A region that draws its order: the law.
-/
import Derived.Test.YtmhfodhmngfoiaaGreatDoorB2
import Derived.Test.YtmhfodhmngfoiaaGreatDoorB1
import Derived.IntWalk
set_option linter.unusedSimpArgs false
set_option linter.unusedVariables false
set_option linter.unnecessarySimpa false
open Array renaming replicate->rb,getElem?_eq_some_iff->eb,getD->Pb,getElem?_eq_getElem->tc
open BitVec renaming toNat_ofInt->fc,ofInt->Ac
open Bool renaming and_eq_true->Pa,false_eq_true->qb,or_eq_true->Bc,false_or->jd
open Function renaming comp->Ed
open Int renaming le_ediv_iff_mul_le->Hb,ediv_lt_iff_lt_mul->Gb,mul_le_mul_of_nonpos_left->Bb,mul_le_mul_of_nonneg_left->Ab,emod_nonneg->zc,dvd_iff_emod_eq_zero->nc,toNat_of_nonneg->Pc,emod_lt_of_pos->Hc,mul_comm->Od
open List renaming map_cons->va,mapM_cons->qa,map_congr_left->Oa,getElem?_set_self->Na,getElem?_set_ne->La,getElem?_append_right->Ja,length_map->Ha,getElem?_append_left->Ga,replicate->Da,getElem?_eq_none->Ca,mem_cons->Ba,ext_getElem?->Aa,map_nil->zb,map_map->vb,length_cons->ob,mem_cons_of_mem->mb,length_nil->ib,getElem?_cons_zero->Lb,all_eq_true->Jb,mem_cons_self->Cb,drop_zero->yc,getElem?_cons_succ->oc,replicate_succ->ec,getElem?_map->Lc,mapM->Gc,countP_cons->Fc,map_append->Dc,cons.injEq->Cc,map_take->ud,map_drop->pd,all_cons->od,map_id->cd,range->Md
open Nat renaming beq->za,le_refl->oa,le_max_right->ja,le_max_left->ea,lt_of_lt_of_le->Fa,zero_add->ub,beq_refl->fb,lt_trichotomy->Ob,ble->Mb,le_of_ble_eq_true->Fb,lt_irrefl->Db,mod_two_eq_zero_or_one->sc,shiftLeft->pc,eq_of_beq_eq_true->ic,and_one_is_mod->Mc,shiftRight->yd,sub_self->gd,lor->dd,land->Jd
open Option renaming some.injEq->ya,some.inj->ua,map_some->sa,map_eq_some_iff->ka,bind_eq_bind->kc,bind_some->dc,pure_def->Oc
open Prod renaming mk.injEq->ga,ext->Ld
namespace Go.Eng
open Go.RowKit
section
variable {ops:Array Oper} {md:Region.Mode}
theorem Agl{e:Edge}(h:Region.binds .any e=true)(md:Region.Mode):Region.binds md e=true:=by
 unfold Region.binds at*;split at h<;>simp_all
theorem Uq(ops:Array Oper)(md:Region.Mode):∀(fuel t:Nat)(listed:Array Bool),listed.size=ops.size->∀(k i:Nat),(Region.linearise.go md ops fuel t listed [])[k]?=some i ->
  ∃o,ops[i]?=some o/\∀e∈o.after,Region.binds md e=true->listed.getD e.on false=true\/e.on∈(Region.linearise.go md ops fuel t listed []).take k
 |0,t,listed,hs,k,i,h=>by simp[Region.linearise.go]at h
 |fuel+1,t,listed,hs,k,i,h=>by
  have wo:Region.linearise.go md ops (fuel+1) t listed []=match (Region.ready md ops listed)[t%(Region.ready md ops listed).length]? with
   |some i=>i::Region.linearise.go md ops fuel (t/(Region.ready md ops listed).length) (listed.setIfInBounds i true) []
   |none=>[]:=by
   simp only[Region.linearise.go];change (match (Region.ready md ops listed)[t%(Region.ready md ops listed).length]? with
    |some i=>Region.linearise.go md ops fuel (t/(Region.ready md ops listed).length) (listed.setIfInBounds i true) [i]
    |none=>[].reverse)=_
   cases (Region.ready md ops listed)[t%(Region.ready md ops listed).length]? with
   |none=>rfl
   |some i=>simp only[];rw[linearise_go_acc];rfl
  rw[wo]at h⊢;cases hr:(Region.ready md ops listed)[t%(Region.ready md ops listed).length]? with
  |none=>rw[hr]at h;simp at h
  |some q=>
   rw[hr]at h;simp only at h⊢;obtain⟨_,oq,hoq,hq⟩:=mem_ready.1 (zM hr);cases k with
   |zero=>
    simp at h;subst h;exact⟨oq,hoq,λe he hb=>.inl (hq e he hb)⟩
   |succ k=>
    simp at h;obtain⟨o,ho,hh⟩:=Uq ops md fuel _ _ (by simpa using hs) k i h;refine⟨o,ho,λe he hb=>?_⟩;rcases hh e he hb with h1|h1
    ·by_cases heq:e.on=q
     ·right;simp[heq]
     ·left
      rw[getD_set_ne false (Ne.symm heq)]at h1;exact h1
    ·right;simp[h1]
theorem nM{p:Nat->Bool}:∀(l:u_),(∃i∈l,p i=false)->∃k i,l[k]?=some i/\p i=false/\∀j∈l.take k,p j=true
 |[],⟨i,hi,_⟩=>by simp at hi
 |x::r,⟨i,hi,hp⟩=>by
  cases hx:p x with
  |false=>exact⟨0,x,rfl,hx,Z'⟩
  |true=>
   have:∃i∈r,p i=false:=by
    rcases Ba.1 hi with h|h
    ·subst h;rw[hx]at hp;cases hp
    ·exact⟨i,h,hp⟩
   obtain⟨k,j,h1,h2,h3⟩:=nM r this;refine⟨k+1,j,by simpa using h1,h2,λq hq=>?_⟩;simp only[List.take_succ_cons,Ba]at hq;rcases hq with h|h
   ·subst h;exact hx
   ·exact h3 q h
theorem progress{l:List AI}(hd:VV ops l=true)(Gi:md = .gc->Region.departs ops=true){listed:Array Bool}(hs:listed.size=ops.size)(hr:Region.ready md ops listed=[]):∀j,j<ops.size->listed.getD j false=true:=by
 intro j hj;cases eh:listed.getD j false with
 |true=>rfl
 |false=>
  exfalso;simp only[VV,Pa]at hd;obtain⟨⟨_,fg⟩,vd⟩:=hd;have oi:∀i,i<ops.size->listed.getD i false=false->¬∀o,ops[i]?=some o->∀e∈o.after,Region.binds md e=true->listed.getD e.on false=true:=λi hi hl jc=>by
   have:i∈Region.ready md ops listed:=mem_ready.2 ⟨by
    have:i<listed.size:=O'
    simp[Pb,this]at hl⊢;exact hl,ops[i],tc hi,λe he hb=>jc ops[i] (tc hi) e he hb⟩
   rw[hr]at this;simp at this
  by_cases Je:md = .gc
  ·subst Je
   rw[Gi rfl]at vd;simp only[Bool.not_true,jd,Jb,List.mem_range,List.contains_iff_mem]at vd;obtain⟨k,i,h1,h2,h3⟩:=nM (p:=λq=>listed.getD q false) (Region.linearise .gc ops 0) ⟨j,vd j hj,eh⟩;obtain⟨o,ho,hh⟩:=Uq ops .gc ops.size 0 (rb ops.size false) Z' k i h1;have hi:i<ops.size:=(eb.1 ho).1;refine oi i hi h2 λo' yh e he hb=>?_
   rw[ho]at yh;obtain rfl:o=o':=by simpa using yh
   rcases hh e he hb with h4|h4
   ·simp[Pb]at h4
   ·exact h3 e.on h4
  ·obtain⟨k,i,h1,h2,h3⟩:=nM (p:=λq=>listed.getD q false) (Md ops.size) ⟨j,by simpa using hj,eh⟩
   have Gd:i=k:=by
    have hkl:k<ops.size:=by have:=(zS h1).1;simpa using this
    rw[List.getElem?_range hkl]at h1;simpa using h1.symm
   subst Gd;have hi:i<ops.size:=by have:=(zS h1).1;simpa using this
   refine oi i hi h2 λo ho e he hb=>?_
   rw[Jb]at fg;have bh:(o,i)∈ops.toList.zipIdx:=List.mem_zipIdx_iff_getElem?.2 (by simpa using ho);have h4:=fg (o,i) bh;simp only[Array.all_eq_true_iff_forall_mem,Bc,decide_eq_true_eq]at h4;rcases h4 e he with h5|h5
   ·exact h3 e.on (by rw[List.take_range];simp;omega)
   ·exfalso
    unfold Region.binds at hb;split at h5
    ·rename_i row Nz
     rw[Nz]at hb;simp at hb;exact Je hb
    ·cases h5
variable {B:Nat} {S:Nat->Prop} {w0:F2} {m0:M} {N:Nat}
variable {P:Program} {num:Nat->Nat} {C:Cl} {Q:Exit->Act->World->Prop}
def W5(listed:Array Bool)(n:Nat):Nat:=(Md n).countP (λj=>!listed.getD j false)
theorem wB{α:Type}{p q:α->Bool}:∀{l:List α}{x:α},(∀y∈l,q y=true->p y=true)->x∈l->p x=true->q x=false->l.countP q<l.countP p
 |[],x,_,hx,_,_=>by simp at hx
 |y::r,x,h,hx,hp,hq=>by
  have hle:r.countP q<=r.countP p:=List.countP_mono_left λz hz hqz=>h z (by simp[hz]) hqz
  rw[Fc,Fc];rcases Ba.1 hx with rfl|hx
  ·simp only[hp,hq,if_true,qb,if_false]
   omega
  ·have:=wB (l:=r) (λz hz=>h z (by simp[hz])) hx hp hq
   by_cases Nu:q y=true
   ·simp only[Nu,h y Z' Nu,if_true];omega
   ·simp only[Nu,qb,if_false]
    split<;>omega
theorem Aoi{I:EL}(hC:HE I P num C B w0){l:List AI}(k6:RA P num N ops ops.toList l=true){σ:Nat->St}{rs:List DQ}(h:dA C ops l σ rs)(Gi:md = .gc->Region.departs ops=true)
  (hQ:∀m' a',m'.own=(σ l.length).own->GL B S w0 m0 N (j7 (σ l.length).tm) m' a'->Q .normal a' m'.w) :
  ∀(fuel:Nat)(listed:Array Bool)(a:Act)(m:M),listed.size=ops.size->W5 listed ops.size<=fuel->XG ops (λj=>listed.getD j false)->m.own=(DZ (λj=>listed.getD j false) rs 0 (d0 σ)).2->GL B S w0 m0 N (DZ (λj=>listed.getD j false) rs 0 (d0 σ)).1 m a->wpAny P md ops Q fuel listed a m.w:=by
 have hlen:ops.size=l.length:=by have:=(bK k6).1;simpa using this
 have final:∀(listed:Array Bool)(a:Act)(m:M),(∀j,j<ops.size->listed.getD j false=true)->m.own=(DZ (λj=>listed.getD j false) rs 0 (d0 σ)).2->GL B S w0 m0 N (DZ (λj=>listed.getD j false) rs 0 (d0 σ)).1 m a->Q .normal a m.w:=λlisted a m jc hown hf=>by
  have:DZ (λj=>listed.getD j false) rs 0 (d0 σ)=(j7 (σ l.length).tm,(σ l.length).own):=by
   rw[<-mJ h l.length (oa _)];refine gC rs 0 _ λi hi=>?_
   simp only[ub];rw[jc i (by rw[hlen,<-h.len];exact hi)];simp;rw[<-h.len];exact hi
  rw[this]at hown hf;exact hQ m a hown hf
 have Ef:∀listed:Array Bool,W5 listed ops.size<=0->∀j,j<ops.size->listed.getD j false=true:=λlisted h0 j hj=>by
  have h1:W5 listed ops.size=0:=O'
  unfold W5 at h1;rw[List.countP_eq_zero]at h1;simpa using h1 j (by simpa using hj)
 intro fuel;induction fuel with
 |zero=>
  intro listed a m hsz hn Mm hown hf;refine⟨?_,final listed a m (Ef listed hn) hown hf⟩;cases hr:Region.ready md ops listed with
  |nil=>rfl
  |cons i r=>
   obtain⟨h1,o,ho,_⟩:=mem_ready.1 (show i∈Region.ready md ops listed by rw[hr];simp);have hi:i<ops.size:=(eb.1 ho).1;have h2:=Ef listed hn i hi;have hil:i<listed.size:=O'
   simp[Pb,hil]at h1 h2;rw[h1]at h2;cases h2
 |succ fuel ih=>
  intro listed a m hsz hn Mm hown hf;refine⟨λhr=>final listed a m (progress h.ok Gi hsz hr) hown hf,λi hi=>?_⟩;obtain⟨h1,o,ho,Bq⟩:=mem_ready.1 hi;have hio:i<ops.size:=(eb.1 ho).1;have hil:i<listed.size:=O'
  have lj:listed.getD i false=false:=by
   simp[Pb,hil]at h1⊢;exact h1
  have sf:i<l.length:=O'
  have gu:i<rs.length:=by rw[h.len];exact sf
  have hx:l[i]?=some l[i]:=zE sf;have hr:rs[i]?=some rs[i]:=zE gu;have fp:∀o',ops[i]?=some o'->∀e∈o'.after,Region.binds .any e=true->listed.getD e.on false=true:=λo' yh e he hb=>by
   rw[ho]at yh;obtain rfl:o=o':=by simpa using yh
   exact Bq e he (Agl hb md)
  obtain⟨g1,g2,g3,g4⟩:=Ah8 h hx hr Mm lj fp;have Nn:=(bK k6).2 i o l[i] (by simpa using ho) hx;have wk:∀j,(listed.setIfInBounds i true).getD j false=(decide (j=i)||listed.getD j false):=λj=>by
   by_cases Dm:j=i
   ·subst Dm;simp[Pb,hil]
   ·rw[getD_set_ne false (Ne.symm Dm)];simp[Dm]
  refine Xk hC ho Nn hf g1 (λhg=>by rw[hown];exact g2 hg) λm' a' lq nq=>?_
  have dn:=g4 _ wk;refine ih (listed.setIfInBounds i true) a' m' (by simpa using hsz) ?_ ?_ ?_ ?_
  ·have hlt:W5 (listed.setIfInBounds i true) ops.size<W5 listed ops.size:=by
    refine wB (x:=i) (λj _ hj=>?_) (by simpa using hio) (by simp[lj]) (by rw[wk];simp);rw[wk]at hj;simp at hj⊢;exact hj.2
   omega
  ·intro j oj hj Jn e he hb
   change (listed.setIfInBounds i true).getD j false=true at hj;show(listed.setIfInBounds i true).getD e.on false=true;rw[wk]at hj⊢;simp only[Bc,decide_eq_true_eq]at hj⊢;rcases hj with rfl|hj
   ·exact .inr (fp oj Jn e he hb)
   ·exact .inr (Mm j oj hj Jn e he hb)
  ·rw[dn,lq,hown]
   rfl
  ·rw[dn]
   rw[hown,g3]at nq;have hd:(l[i]).dst=(rs[i]).d:=(h.fits i _ _ hx hr).d.symm;rw[hd]at nq;exact nq
theorem Aoj{I:EL}(hC:HE I P num C B w0){id:Nat}{l:List AI}(k6:RA P num N ops ops.toList l=true)(hd:VV ops l=true){st n9:St}(o4:DC C l st=some n9){m:M}{a:Act}(hown:m.own=st.own)(hf:GL B S w0 m0 N (j7 st.tm) m a)
  (hQ:∀m' a',m'.own=n9.own->GL B S w0 m0 N (j7 n9.tm) m' a'->Q .normal a' m'.w):(Code.region id ops true).wp P Q a m.w:=by
 obtain⟨σ,rs,h0,h1,hl,h2⟩:=trace o4;have hD:dA C ops l σ rs:=⟨hd,hl,h2⟩;obtain⟨ig,Fy⟩:=grow hf.mem ((DL.refl w0.D m.w.heap.size m.w).drew);have tp:GL B S w0 m0 N (j7 st.tm) ⟨m.ν,m.own,m.w.drew⟩ a:=⟨ig,hf.ext.trans Fy,λi=>Fy.cv (hf.tm i),hf.size,hf.defers⟩;have Ig:DZ (λj=>(rb ops.size false).getD j false) rs 0 (d0 σ)=d0 σ:=nR rs 0 _ λi _=>by simp[Pb]
 have key:∀md:Region.Mode,(md = .gc->Region.departs ops=true)->∀t,wpOps P ops Q (Region.linearise md ops t) a m.w.drew:=λmd Gi t=>by
  refine wpAny_sound ops.size t (rb ops.size false) a m.w.drew ?_;refine Aoi hC k6 hD Gi (by rw[h1];exact hQ) ops.size _ a ⟨m.ν,m.own,m.w.drew⟩ Z' ?_ ?_ ?_ ?_
  ·unfold W5
   exact Nat.le_trans List.countP_le_length Z'
  ·intro j o hj
   simp[Pb]at hj
  ·rw[Ig];simp[d0,h0,hown]
  ·rw[Ig];simpa [d0,h0]using tp
 refine wp_region_draw λt=>?_
 change wpOps P ops Q _ a m.w.drew;unfold Region.schedule;split
 ·exact key .any (λh=>by cases h) t
 ·rename_i Fw
  have Jc:Region.departs ops=true:=by simp at Fw;exact Fw.2
  split
  ·exact key .text (λ_=>Jc) _
  ·exact key .gc (λ_=>Jc) _
end
end Go.Eng
namespace Go.Eng
open Go.RowKit
section
variable {B:Nat} {S:Nat->Prop} {w0:F2} {m0:M} {N:Nat}
variable {P:Program} {num:Nat->Nat} {C:Cl}
theorem AnX(m:Tm)(l:u_)(j:Nat):j7 (bk m l) j=j7 m j\/j7 (bk m l) j = .any:=by
 induction m with
 |nil=>exact .inl rfl
 |cons x r ih=>
  obtain⟨i,v⟩:=x;simp only[bk];split
  ·by_cases h:j=i
   ·subst h
    rename_i hc;right
    clear ih;induction r with
    |nil=>rfl
    |cons y q ih=>
     obtain⟨k,u⟩:=y;simp only[bk];split
     ·exact ih
     ·rename_i hk
      have:¬j=k:=λe=>by subst e;exact hk hc
      simp only[j7,if_neg this];exact ih
   ·rcases ih with h1|h1
    ·left;simp only[j7,if_neg h];exact h1
    ·right;exact h1
  ·by_cases h:j=i
   ·left;simp[j7,h]
   ·simp only[j7,if_neg h]
    exact ih
inductive JZ(P:Program)(num:Nat->Nat)(N:Nat):List It->List Item->Prop
 |nil:JZ P num N [] []
 |code {c:Code} {a:BF} {k:List It} {t:List Item} (h:FE P num N c a=true) (hk:JZ P num N k t):JZ P num N (.code a::k) (.code c::t)
 |drop {ts ss:u_} {k:List It} {t:List Item} (hk:JZ P num N k t):JZ P num N (.ot ts ss::k) t
 |c9 {id:Nat} {k:List It} {t:List Item} (hk:JZ P num N k t):JZ P num N (.c9 id::k) (.inBlock id::t)
 |lp {c:Code} {a:BF} {k:List It} {t:List Item} (h:FE P num N c a=true) (hk:JZ P num N k t):JZ P num N (.lp a::k) (.inLoop c::t)
 |scope {c:Code} {k:List It} {t:List Item} (hk:JZ P num N k t):JZ P num N k (.inScope c::t)
theorem Zk{b:Frame}{a:Act}{k:List Item}{cs:List Frame}{w:World}{c:Code}:step P (lone (b.at a (.inScope c::k)) cs w) = .next (lone (b.at a k) cs w) :=
 step_lone_go (by simp[stepG,stepG.exec,Frame.at])
theorem AnG{b:Frame}{a:Act}{k:List Item}{cs:List Frame}{w:World}{c:Code}:step P (lone (b.at a (.code (.scope c)::k)) cs w) = .next (lone (b.at a (.code c :: .inScope c::k)) cs w) :=
 step_lone_go (by simp[stepG,stepG.exec,Frame.at])
theorem YA{id:Nat}:∀{k:List It}{t:List Item},JZ P num N k t->∀{k':List It},GG id k=some k'->∃t',exitTo id t=some t'/\JZ P num N k' t'
 |_,_,.nil,k',h=>by simp[GG]at h
 |_,_,.code h0 hk,k',h=>by
  simp only[GG]at h;obtain⟨t',h1,h2⟩:=YA hk h;exact⟨t',by simpa [exitTo]using h1,h2⟩
 |_,_,.drop hk,k',h=>by
  simp only[GG]at h;exact YA hk h
 |_,_,.c9 (id:=Jy) hk,k',h=>by
  simp only[GG]at h;split at h
  ·rename_i he
   subst he;simp only[ya]at h;subst h;exact⟨_,by simp[exitTo],hk⟩
  ·rename_i he
   obtain⟨t',h1,h2⟩:=YA hk h;exact⟨t',by simpa [exitTo,he]using h1,h2⟩
 |_,_,.lp h0 hk,k',h=>by
  simp only[GG]at h;obtain⟨t',h1,h2⟩:=YA hk h;exact⟨t',by simpa [exitTo]using h1,h2⟩
 |_,_,.scope hk,k',h=>by
  obtain⟨t',h1,h2⟩:=YA hk h;exact⟨t',by simpa [exitTo]using h1,h2⟩
def tM(B:Nat)(S:Nat->Prop)(w0:F2)(m0:M)(N:Nat)(P:Program)(b:Frame)(cs:List Frame)(Pj:Machine)(n9:St):Prop :=
 ∃a' m' u4,Steps P Pj (lone { b.at a' u4 with mode := .returning } cs m'.w)/\m'.own=n9.own/\GL B S w0 m0 N (j7 n9.tm) m' a'
theorem Am1{I:EL}(hC:HE I P num C B w0)(b:Frame)(cs:List Frame):∀(n:Nat)(k:List It)(st n9:St),run C n k st=some n9->∀(t:List Item),JZ P num N k t->∀(m:M)(a:Act),m.own=st.own->GL B S w0 m0 N (j7 st.tm) m a ->
  tM B S w0 m0 N P b cs (lone (b.at a t) cs m.w) n9:=by
 intro n;induction n with
 |zero=>intro k st n9 h;simp[run]at h
 |succ n ih=>
  intro k st n9 h t ht;have fin:∀(t:List Item),JZ P num N [] t->∀(m:M)(a:Act),m.own=st.own->GL B S w0 m0 N (j7 st.tm) m a->st=n9->tM B S w0 m0 N P b cs (lone (b.at a t) cs m.w) n9:=by
   intro t ht;generalize hk:([]:List It)=kk at ht;induction ht with
   |nil=>
    intro m a hown hf he;subst he;exact⟨a,m,[],.one step_end,hown,hf⟩
   |scope jg gi=>
    intro m a hown hf he;obtain⟨a',m',u4,h1,h2⟩:=gi hk m a hown hf he;exact⟨a',m',u4,.head Zk h1,h2⟩
   |code=>cases hk
   |drop=>cases hk
   |c9=>cases hk
   |lp=>cases hk
  cases k with
  |nil=>
   intro m a hown hf;simp only[run,ya]at h;exact fin t ht m a hown hf h
  |cons it k=>
   generalize jm:it::k=kk at ht;induction ht with
   |nil=>cases jm
   |scope jg gi=>
    intro m a hown hf;obtain⟨a',m',u4,h1,h2⟩:=gi jm m a hown hf;exact⟨a',m',u4,.head Zk h1,h2⟩
   | @c9 id k2 t2 jg gi=>
    intro m a hown hf;obtain⟨rfl,rfl⟩:it = .c9 id/\k=k2:=by simpa using jm
    simp only[run]at h;obtain⟨a',m',u4,h1,h2⟩:=ih k st n9 h t2 jg m a hown hf;exact⟨a',m',u4,.head step_inBlock h1,h2⟩
   | @lp c ac k2 t2 k6 jg gi=>
    intro m a hown hf;obtain⟨rfl,rfl⟩:it = .lp ac/\k=k2:=by simpa using jm
    simp only[run]at h;obtain⟨a',m',u4,h1,h2⟩:=ih _ st n9 h (.code c :: .inLoop c::t2) (.code k6 (.lp k6 jg)) m a hown hf;exact⟨a',m',u4,.head step_inLoop h1,h2⟩
   | @drop ts ss k2 t2 jg gi=>
    intro m a hown hf;obtain⟨rfl,rfl⟩:it = .ot ts ss/\k=k2:=by simpa using jm
    simp only[run]at h;obtain⟨kg,he⟩:=Ah9 hf.mem ss;have nq:GL B S w0 m0 N (j7 (bk st.tm ts)) ⟨m.ν,m.own.drop ss,m.w⟩ a:=⟨kg,hf.ext.trans he,λi=>by
     rcases AnX st.tm ts i with h1|h1
     ·rw[h1];exact he.cv (hf.tm i)
     ·rw[h1];exact .any _,hf.size,hf.defers⟩
    obtain⟨a',m',u4,h1,h2,h3⟩:=ih k ⟨bk st.tm ts,st.own.drop ss⟩ n9 h t2 jg ⟨m.ν,m.own.drop ss,m.w⟩ a (by simp[hown]) nq;exact⟨a',m',u4,h1,h2,h3⟩
   | @code c ac k2 t2 k6 jg gi=>
    obtain⟨rfl,rfl⟩:it = .code ac/\k=k2:=by simpa using jm
    clear gi jm;intro m a hown hf;cases ac with
    |dr ac ts ss=>
     simp only[FE]at k6;simp only[run]at h;exact ih _ st n9 h _ (.code k6 (.drop jg)) m a hown hf
    |skip=>
     simp only[run]at h;cases c with
     |skip=>
      obtain⟨a',m',u4,h1,h2⟩:=ih _ st n9 h _ jg m a hown hf;exact⟨a',m',u4,.head step_skip h1,h2⟩
     |label=>
      obtain⟨a',m',u4,h1,h2⟩:=ih _ st n9 h _ jg m a hown hf;exact⟨a',m',u4,.head step_label h1,h2⟩
     |_=>simp[FE]at k6
    |scope ac=>
     simp only[run]at h;cases c with
     |scope c=>
      simp only[FE]at k6;obtain⟨a',m',u4,h1,h2⟩:=ih _ st n9 h _ (.code k6 (.scope (c:=c) jg)) m a hown hf;exact⟨a',m',u4,.head AnG h1,h2⟩
     |_=>simp[FE]at k6
    |seq a1 a2=>
     simp only[run]at h;cases c with
     |seq c1 c2=>
      simp only[FE,Pa]at k6;obtain⟨a',m',u4,h1,h2⟩:=ih _ st n9 h _ (.code k6.1 (.code k6.2 jg)) m a hown hf;exact⟨a',m',u4,.head step_seq h1,h2⟩
     |_=>simp[FE]at k6
    |cond x a1 a2=>
     simp only[run]at h;cases c with
     |cond xc c1 c2=>
      simp only[FE,Pa]at k6;have hcv:CV B S m (st.ev x) (a.eval xc):=by rw[yK];exact hf.says xc x k6.1.1
      split at h
      ·rename_i hx
       rw[hx]at hcv;obtain⟨a',m',u4,h1,h2⟩:=ih _ st n9 h _ (.code k6.1.2 jg) m a hown hf;exact⟨a',m',u4,.head (step_cond (VR hcv)) h1,h2⟩
      ·rename_i hx
       rw[hx]at hcv;obtain⟨a',m',u4,h1,h2⟩:=ih _ st n9 h _ (.code k6.2 jg) m a hown hf;exact⟨a',m',u4,.head (step_cond (VR hcv)) h1,h2⟩
      ·cases h
     |_=>simp[FE]at k6
    |block id ac=>
     simp only[run]at h;cases c with
     |block Jy c=>
      simp only[FE,Pa,beq_iff_eq]at k6;obtain⟨rfl,k6⟩:=k6;obtain⟨a',m',u4,h1,h2⟩:=ih _ st n9 h _ (.code k6 (.c9 jg)) m a hown hf;exact⟨a',m',u4,.head step_block h1,h2⟩
     |_=>simp[FE]at k6
    |loop ac=>
     simp only[run]at h;cases c with
     |loop c=>
      simp only[FE]at k6;obtain⟨a',m',u4,h1,h2⟩:=ih _ st n9 h _ (.code k6 (.lp k6 jg)) m a hown hf;exact⟨a',m',u4,.head step_loop h1,h2⟩
     |_=>simp[FE]at k6
    |exit id=>
     simp only[run]at h;cases c with
     |exit Jy=>
      simp only[FE,beq_iff_eq]at k6;subst k6;split at h
      ·rename_i k' ny
       obtain⟨t',e1,e2⟩:=YA jg ny;obtain⟨a',m',u4,h1,h2⟩:=ih _ st n9 h _ e2 m a hown hf;exact⟨a',m',u4,.head (step_exit e1) h1,h2⟩
      ·cases h
     |_=>simp[FE]at k6
    |ret=>
     simp only[run,ya]at h;subst h;cases c with
     |ret=>exact⟨a,m,.code .ret::t2,.one step_ret,hown,hf⟩
     |_=>simp[FE]at k6
    |ops l draw=>
     simp only[run]at h;split at h
     ·rename_i A7 Hd
      cases c with
      |region id ops qp=>
       simp only[FE,Pa,beq_iff_eq]at k6;obtain⟨⟨rfl,Gt⟩,dm⟩:=k6;have hwp:(Code.region id ops qp).wp P (λe a' w'=>e = .normal/\∃m',m'.w=w'/\m'.own=A7.own/\GL B S w0 m0 N (j7 A7.tm) m' a') a m.w:=by
        cases qp with
        |true=>exact Aoj hC Gt (by simpa using dm) Hd hown hf λm' a' h1 h2=>⟨rfl,m',rfl,h1,h2⟩
        |false=>
         refine wp_region ?_;rw[List.range_eq_range'];exact Xm hC Gt ops.size 0 st A7 m a O' (by simpa using Hd) hown hf λm' a' h1 h2=>⟨rfl,m',rfl,h1,h2⟩
       obtain⟨e,a1,w1,⟨rfl,m1,rfl,hown1,tp⟩,Bj⟩:=hwp b t2 cs;obtain⟨a',m',u4,h1,h2,h3⟩:=ih _ A7 n9 h _ jg m1 a1 hown1 tp;exact⟨a',m',u4,Steps.trans Bj h1,h2,h3⟩
      |_=>simp[FE]at k6
     ·cases h
end
end Go.Eng

namespace Go.Eng
open Go.RowKit
section
variable {P:Program} {num:Nat->Nat} {L:Lib}
def ProgOK(P : Program)(num : Nat → Nat)(L : Lib) : Prop := (∀ f fa, L f = some fa → ∃ fn, P.funcs[num f]? = some fn ∧ okFn P num fn fa = true ∧ (fn.name == "runtime.NumGoroutine") = false) ∧ L.num = num
theorem Pv:∀(args:w_)(k i:Nat),j7 (CJ k args) i=if k<=i then(match args[i-k]? with|some v=>v|none=>.any)else .any
 |[],k,i=>by simp[CJ,j7]
 |v::r,k,i=>by
  simp only[CJ,j7];by_cases h:i=k
  ·subst h;simp
  ·rw[if_neg h,Pv r (k+1) i]
   by_cases h2:k<=i
   ·rw[if_pos h2,if_pos O']
    have:i-k=(i-(k+1))+1:=O'
    rw[this];simp
   ·rw[if_neg h2,if_neg O']
section
variable {B:Nat} {S:Nat->Prop} {w0:F2} {m0:M} {N:Nat}
def iZ(tmps:Array Value):ResultVar->Sem Value
 |.tmp t=>pure (tmps.getD t undef)
 |.cell x t=>do loadVar t (<-asAddr (tmps.getD x undef))
theorem Agq{m:M}{x v:AV}{u:Value}(h:J8 x=some v)(hcv:CV B S m x u):CA B S m v u:=by
 cases hcv with
 |any=>simp[J8]at h
 |j4=>simp[J8]at h
 |ca hc=>
  have:x=v:=by
   cases hc with
   |one hc=>cases hc with
    |rd hr=>cases hr<;>simpa [J8]using h
    |_=>simpa [J8]using h
   |fn=>simpa [J8]using h
   |tf=>simpa [J8]using h
   |agg=>simpa [J8]using h
  subst this;exact hc
theorem qZ{m:M}{a:Act}{st:St}(hf:GL B S w0 m0 N (j7 st.tm) m a)(hown:m.own=st.own):∀{rv:List ResultVar}{ra:List LJ}{vs:w_},N0 P rv ra=true->ra.mapM (FY st)=some vs ->
  ∃us:List Value,(rv.mapM (iZ a.tmps)).run P m.w = .ok us m.w/\vs.length=us.length/\∀(j:Nat)(c:AV)(v:Value),vs[j]?=some c->us[j]?=some v->CA B S m c v
 |[],[],vs,_,h=>by
  simp at h;subst h;exact⟨[],Z',rfl,λj c v hc=>by simp at hc⟩
 |.tmp t::r,.tmp t'::l,vs,k6,h=>by
  simp only[N0,Pa,beq_iff_eq]at k6;obtain⟨rfl,k6⟩:=k6;simp only[qa,kc,Oc]at h;cases hv:FY st (.tmp t)with
  |none=>simp[hv]at h
  |some v=>
   cases hr:l.mapM (FY st)with
   |none=>simp[hv,hr]at h
   |some vr=>
    simp[hv,hr]at h;subst h;obtain⟨us,h1,h2,h3⟩:=qZ hf hown k6 hr;have hcv:=hf.tm t;have qw:CA B S m v (a.tmps.getD t undef):=Agq hv hcv;refine⟨a.tmps.getD t undef::us,?_,by simp[h2],λj c u hc hu=>?_⟩
    ·simp only[qa,Sem.run_bind,iZ,Sem.run_pure,Result.andThen_ok,h1]
    ·cases j with
     |zero=>
      obtain rfl:v=c:=by simpa using hc
      obtain rfl:a.tmps.getD t undef=u:=ua hu;exact qw
     |succ j=>exact h3 j c u (by simpa using hc) (by simpa using hu)
 |.cell x t::r,.cell x' agg n::l,vs,k6,h=>by
  simp only[N0,Pa,beq_iff_eq]at k6;obtain⟨⟨⟨rfl,jt⟩,hn⟩,k6⟩:=k6;simp only[qa,kc,Oc]at h;cases hv:FY st (.cell x agg n)with
  |none=>simp[hv]at h
  |some v=>
   cases hr:l.mapM (FY st)with
   |none=>simp[hv,hr]at h
   |some vr=>
    simp[hv,hr]at h;subst h;obtain⟨us,h1,h2,h3⟩:=qZ hf hown k6 hr;have hcv:=hf.tm x;simp only[FY]at hv;split at hv
    ·rename_i s u i j hx
     rw[hx]at hcv;split at hv
     ·rename_i cs kj
      rw[<-hown]at kj;obtain⟨ad,cr,ht,hb⟩:=X1 hcv;obtain⟨b,g,arr,e,l9,hg,ct,kv,s8,gx⟩:=Wt hf.mem (aB hcv) kj;obtain⟨AAS,ko⟩:=iM hv s8;have hld:=rG (P:=P) t agg n (kW (by simpa using jt)) (by
       cases agg
       ·simpa using hn
       ·exact P9 (by simpa using hn)) ad ct kv m.w (λq u' hq=>by
       have hlt:q<ct.length:=(zS hq).1;obtain⟨yb,je⟩:=hg O';obtain⟨g',da,rfl⟩:=hb b l9;obtain rfl:g=g':=by rw[yb]at da;simpa using da
       rw[I0,VK je];exact gx q u' hq)
      have Nc:(iZ a.tmps (.cell x t)).run P m.w = .ok (if agg then .agg ct.toArray else ct.getD 0 undef) m.w:=by
       show(do loadVar t (<-asAddr (a.tmps.getD x undef)):Sem Value).run P m.w=_;rw[cr];simpa [asAddr,Instr.loadAt,Instr.sureAddr]using hld
      have qw:CA B S m v (if agg then .agg ct.toArray else ct.getD 0 undef):=by
       unfold M4 at hv;cases agg with
       |true=>
        simp only[if_true,ya]at hv;subst hv;exact .agg cs ct s8
       |false=>
        simp only[qb,if_false]at hv⊢;split at hv
        ·rename_i c
         simp only[ya]at hv;subst hv;obtain⟨u',hu',bu⟩:=XX s8 (j:=0) (c:=c) rfl;simp only[List.getD,hu',Option.getD_some];exact .one bu
        ·cases hv
      refine⟨(if agg then .agg ct.toArray else ct.getD 0 undef)::us,?_,by simp[h2],λj' c u' hc hu=>?_⟩
      ·rw[qa,Sem.run_bind,Nc,Result.andThen_ok,Sem.run_bind,h1,Result.andThen_ok]
       rfl
      ·cases j' with
       |zero=>
        obtain rfl:v=c:=by simpa using hc
        obtain rfl:=ua hu;exact qw
       |succ j'=>exact h3 j' c u' (by simpa using hc) (by simpa using hu)
     ·cases hv
    ·cases hv
 |[],_::_,_,k6,_=>by simp[N0]at k6
 |.tmp _::_,[],_,k6,_=>by simp[N0]at k6
 |.cell _ _::_,[],_,k6,_=>by simp[N0]at k6
 |.tmp _::_,.cell _ _ _::_,_,k6,_=>by simp[N0]at k6
 |.cell _ _::_,.tmp _::_,_,k6,_=>by simp[N0]at k6
end
theorem vB(hP:ProgOK P num L){f:Nat}{fa:AFn}(hL:L f=some fa)(us:Array Value)(w:World):(callFunc (num f) us).run P w = .ok (.enter (num f) us) w:=by
 obtain⟨fn,h1,h2,h3⟩:=hP.1 f fa hL;have hb:fn.body.isNone=false:=by
  simp only[okFn,Pa]at h2;cases hbd:fn.body with
  |none=>rw[hbd]at h2;simp at h2
  |some c=>rfl
 unfold callFunc;simp only[Sem.run_bind,run_program,Result.andThen_ok,h1,h3,hb,qb,if_false,Sem.run_pure]
theorem Px(hP:ProgOK P num L){I:EL}{n:Nat}(hC:cY I P num (CN L n)){f:Nat}{vs:w_}{own:Own}{r:AV}{o8:Own}(h:DI L (n+1) f vs own=some (r,o8))(B:Nat)(S:Nat->Prop)(w0:F2)(m:M)(us:List Value)(Lh:I.b0<=B)(Lk:I.ok w0.w)(Li:w0.D->I.D)(hown:m.own=own)(hm:BH B S w0 m)(hl:vs.length=us.length)
  (hcv:∀(j:Nat)(c:AV)(v:Value),vs[j]?=some c->us[j]?=some v->CV B S m c v) :
  Calls P (num f) us.toArray m.w λe w'=>∃u m',e = .returned u/\m'.w=w'/\m'.own=o8/\BH B S w0 m'/\CU B S m m'/\CV B S m' r u:=by
 rw[X7]at h;cases hL:L f with
 |none=>simp[hL]at h
 |some fa=>
  simp only[hL]at h;split at h
  ·rename_i Gu
   split at h
   ·rename_i st w5
    split at h
    ·rename_i rvs mi
     simp only[ya,ga]at h;obtain⟨rfl,rfl⟩:=h;obtain⟨fn,h1,h2,h3⟩:=hP.1 f fa hL;simp only[okFn,Pa,beq_iff_eq,decide_eq_true_eq]at h2;obtain⟨⟨⟨h4,h5⟩,h6⟩,h7⟩:=h2;split at h7
     ·rename_i c hc
      intro cs;have Br:Frame.enter P (num f) us.toArray .normal=({ (default:Frame)with fn:=num f,kind := .normal }:Frame).at { tmps:=us.toArray++rb (fn.ntmps-us.toArray.size) undef,defers:=[] } [.code c]:=by
       simp[Frame.enter,Frame.at,h1,hc]
      have hsz:us.length=fa.ch:=by rw[<-hl];exact Gu
      have Mq:GL B S w0 m fn.ntmps (j7 (CJ 0 vs)) m { tmps:=us.toArray++rb (fn.ntmps-us.toArray.size) undef,defers:=[] }:=by
       refine⟨hm,CU.refl m,λi=>?_,by simp;omega,rfl⟩;rw[Pv];simp only[Nat.zero_le,if_true,Nat.sub_zero];cases Hl:vs[i]? with
       |none=>exact .any _
       |some v=>
        have hi:i<us.length:=by rw[<-hl];exact(zS Hl).1
        have l9:(us.toArray++rb (fn.ntmps-us.toArray.size) undef).getD i undef=us[i]:=by
         rw[Array.getD_eq_getD_getElem?,Array.getElem?_append_left (by simpa using hi)];simp[hi]
        simp only[l9];exact hcv i v us[i] Hl (zE hi)
      obtain⟨a',m',u4,Cj,lq,nq⟩:=Am1 (m0:=m) (⟨hC,Lh,Lk,Li⟩:HE I P num (CN L n) B w0) { (default:Frame)with fn:=num f,kind := .normal } cs n [.code fa.body] ⟨CJ 0 vs,own⟩ st w5 [.code c] (.code h7 .nil) m _ hown Mq;obtain⟨xd,Cn,uc,hu3⟩:=qZ (P:=P) nq lq h6 mi;have yj:(results fn a'.tmps).run P m'.w = .ok (if h:xd.length=1 then xd[0]else .tuple xd.toArray) m'.w:=by
       have hr:results fn a'.tmps=(do let vs <-fn.results.mapM (iZ a'.tmps);pure (if h:vs.size=1 then vs[0]else .tuple vs)):=rfl;rw[hr,Sem.run_bind,Array.mapM_eq_mapM_toList];simp[Cn]
      refine⟨.returned (if h:xd.length=1 then xd[0]else .tuple xd.toArray),m'.w,_,⟨_,m',rfl,rfl,lq,nq.mem,nq.ext,?_⟩,by rw[Br];exact Cj,rfl,rfl,nq.defers,rfl,fn,h1,yj⟩;unfold JS;split
      ·rename_i v
       have ui:xd.length=1:=by rw[<-uc];rfl
       rw[dif_pos ui];exact .ca (hu3 0 v xd[0] rfl (zE O'))
      ·rename_i o7
       have ui:¬xd.length=1:=λe=>by
        rw[<-uc]at e;cases rvs with
        |nil=>simp at e
        |cons q qs=>cases qs with
         |nil=>exact o7 q rfl
         |cons=>simp at e
       rw[dif_neg ui];exact .j4 rvs xd uc hu3
     ·cases h7
    ·cases h
   ·cases h
  ·cases h
theorem AlE(S:Nat->Prop)(w:World)(D:Prop):BH w.heap.size S ⟨w,D⟩ ⟨λ_ _=>none,Own.emp,w⟩ :=
 ⟨DL.refl _ _ _,oa _,λ_ _ _=>rfl,λs t b h=>by simp[Own.get,Own.emp]at h,λs t s' t' b b' g h=>by simp[Own.get,Own.emp]at h⟩
theorem Aip{n f:Nat}{vs:w_}{own:Own}{r:AV×Own}(h:DI L n f vs own=some r):∃fa,L f=some fa:=by
 cases n with
 |zero=>simp[DI]at h
 |succ n=>
  rw[X7]at h;cases hL:L f with
  |none=>simp[hL]at h
  |some fa=>exact⟨fa,rfl⟩
theorem qM{n f:Nat}{vs:w_}{r:AV}(h:JM (λvs=>DI L n f vs Own.emp) vs=some r):∃r0 o,DI L n f vs Own.emp=some (r0,o)/\US o false r0=some r/\AY r:=by
 unfold JM at h;cases he:DI L n f vs Own.emp with
 |none=>simp[he]at h
 |some x=>
  obtain⟨r0,o⟩:=x;simp only[he]at h;split at h
  ·rename_i r' hr
   split at h
   ·rename_i hc
    simp only[ya]at h;subst h;exact⟨r0,o,rfl,hr,hc⟩
   ·cases h
  ·cases h
theorem Ais{n f:Nat}{vs:w_}{r:AV}{fa:AFn}(hL:L f=some fa)(h:FU L n f vs=some r):∃ct,∃x,DI L n f ct Own.emp=some x:=by
 unfold FU N2 N1 at h;simp only[hL]at h;split at h
 ·split at h
  ·rename_i r1 r2 h1 h2
   obtain⟨r0,o,h3,_⟩:=qM h1;exact⟨_,_,h3⟩
  ·cases h
 ·obtain⟨r0,o,h3,_⟩:=qM h
  exact⟨_,_,h3⟩
theorem xZ{n f:Nat}{vs:w_}{r:AV}(hL:L f=none)(h:FU L n f vs=some r):L.ext f vs=some r/\AY r:=by
 unfold FU N2 at h;simp only[hL]at h;split at h
 ·rename_i r' hr
  split at h
  ·rename_i hc
   obtain rfl:=ua h;exact⟨hr,hc⟩
  ·cases h
 ·cases h
structure XJ(I:EL)(P:Program)(num:Nat->Nat)(L:Lib):Prop where
 ok:ProgOK P num L
 enter:∀(f:Nat)(vs:w_)(r:AV),L f=none->L.ext f vs=some r->∀(us:Array Value)(w:World),(callFunc (num f) us).run P w = .ok (.enter (num f) us) w
 ext:∀(f:Nat)(vs:w_)(r:AV),L f=none->L.ext f vs=some r->AY r->∀(S:Nat->Prop)(w:World)(us:List Value),I.ok w->vs.length=us.length->(∀(j:Nat)(c:AV)(v:Value),vs[j]?=some c->us[j]?=some v->CA w.heap.size S ⟨λ_ _=>none,Own.emp,w⟩ c v) ->
  Calls P (num f) us.toArray w λe w'=>∃u,e = .returned u/\DL I.D w.heap.size w w'/\CV w.heap.size S ⟨λ_ _=>none,Own.emp,w'⟩ r u/\AY r
 cmp:tL P num L.cmp
 fe:∀(fs k:Nat),L.ff fs=some k->dO P (num fs) k
theorem XJ.of{I:EL}(h:ProgOK P num L)(he:∀f vs,L.ext f vs=none)(hc:∀f vs,L.cmp f vs=none)(hs:∀f,L.ff f=none):XJ I P num L:=⟨h,λf vs r _ hx=>by rw[he]at hx;(cases hx),λf vs r _ hx=>by rw[he]at hx;(cases hx),λf vs r hx=>by rw[hc]at hx;(cases hx),λf k hx=>by rw[hs]at hx;(cases hx)⟩
theorem qN(hP:ProgOK P num L){I:EL}{n:Nat}(ih:cY I P num (CN L n)){f:Nat}{vs:w_}{r:AV}(h:JM (λvs=>DI L (n+1) f vs Own.emp) vs=some r)(S:Nat->Prop)(w:World)(us:List Value)(hw:I.ok w)(hl:vs.length=us.length)
  (qw:∀(j:Nat)(c:AV)(v:Value),vs[j]?=some c->us[j]?=some v->CA w.heap.size S ⟨λ_ _=>none,Own.emp,w⟩ c v) :
  Calls P (num f) us.toArray w λe w'=>∃u,e = .returned u/\DL I.D w.heap.size w w'/\CV w.heap.size S ⟨λ_ _=>none,Own.emp,w'⟩ r u/\AY r:=by
 obtain⟨r0,o,h1,h2,h3⟩:=qM (L:=L) h;refine Calls.mono (Px hP ih h1 w.heap.size S ⟨w,I.D⟩ ⟨λ_ _=>none,Own.emp,w⟩ us (I.size _ hw) hw id rfl (AlE S w I.D) hl λj c v hc hv=>.ca (qw j c v hc hv)) λe w' ⟨u,m',he,hw,hown,kg,_,hcv⟩=>?_
 subst hw;refine⟨u,he,kg.below,?_,h3⟩;refine DV.cv (m:=⟨λ_ _=>none,Own.emp,m'.w⟩) (Ann kg false (safe w.heap.size S ⟨λ_ _=>none,Own.emp,m'.w⟩) (λl b hb hs=>?_) (λs t g ji hg=>?_) (by rw[hown];exact h2) hcv)
 ·rcases hs with h|⟨h,_⟩|h
  ·exact .inl h
  ·exact .inr (.inl ⟨h,λs t ji=>by simp[Own.get,Own.emp]at ji⟩)
  ·exact .inr (.inr h)
 ·exact .inr (.inl ⟨(kg.ge ji hg).1,λs t ji=>by simp[Own.get,Own.emp]at ji⟩)
theorem vC{I:EL}(hP:XJ I P num L):∀n,cY I P num (CN L n):=by
 intro n;have told:∀n f vs r,L f=none->FU L n f vs=some r->∀(S:Nat->Prop)(w:World)(us:List Value),I.ok w->vs.length=us.length->(∀(j:Nat)(c:AV)(v:Value),vs[j]?=some c->us[j]?=some v->CA w.heap.size S ⟨λ_ _=>none,Own.emp,w⟩ c v) ->
   Calls P (num f) us.toArray w λe w'=>∃u,e = .returned u/\DL I.D w.heap.size w w'/\CV w.heap.size S ⟨λ_ _=>none,Own.emp,w'⟩ r u/\AY r:=λn f vs r hL h=>by
  obtain⟨h1,h2⟩:=xZ hL h;exact hP.ext f vs r hL h1 h2
 have Ay:∀n f vs r,FU L n f vs=some r->∀(us:Array Value)(w:World),(callFunc (num f) us).run P w = .ok (.enter (num f) us) w:=λn f vs r h us w=>by
  cases hL:L f with
  |some fa=>exact vB hP.ok hL us w
  |none=>exact hP.enter f vs r hL (xZ hL h).1 us w
 induction n with
 |zero=>
  exact⟨λf vs r h=>Ay 0 f vs r h,λf vs own r h=>by change DI L 0 f vs own=some r at h;simp[DI]at h,
   λf vs r h=>by
    cases hL:L f with
    |none=>exact told 0 f vs r hL h
    |some fa=>obtain⟨ct,x,h1⟩:=Ais (L:=L) (n:=0) (f:=f) (vs:=vs) (r:=r) hL h;simp[DI]at h1,λf vs own r o8 h=>by change DI L 0 f vs own=_ at h;simp[DI]at h,hP.cmp,hP.fe,hP.ok.2⟩
 |succ n ih=>
  refine⟨λf vs r h us w=>Ay (n+1) f vs r h us w,λf vs own r h us w=>?_,λf vs r h S w us hw hl qw=>?_,λf vs own r o8 h B S w0 m us Lh Lk Li hown hm hl hcv=>Px hP.ok ih h B S w0 m us Lh Lk Li hown hm hl hcv,hP.cmp,hP.fe,hP.ok.2⟩
  ·obtain⟨fa,hL⟩:=Aip (L:=L) h
   exact vB hP.ok hL us w
  ·cases hL:L f with
   |none=>exact told (n+1) f vs r hL h S w us hw hl qw
   |some fa=>
   have h:N1 (L.rn f) (λvs=>DI L (n+1) f vs Own.emp) vs=some r:=by
    have h:FU L (n+1) f vs=some r:=h;unfold FU N2 at h;simp only[hL]at h;exact h
   unfold N1 at h;split at h
   ·rename_i q ct _ _
    split at h
    ·rename_i r1 r2 h1 h2
     split at h
     ·rename_i e
      subst e;obtain rfl:=ua h;cases us with
      |nil=>simp at hl
      |cons u us=>
       have h0:=qw 0 _ u rfl rfl;have hu:∃a cap,u = .slice a 0 cap:=by
        cases h0 with
        |one h0=>cases h0 with
         |rd h0=>cases h0 with
          |jb l a cap=>exact⟨a,cap,rfl⟩
          |sl l es b o a7 cap u o7=>exact absurd rfl o7
       obtain⟨a,cap,rfl⟩:=hu;have key:∀b,a.isNone=b->∀(j:Nat)(c:AV)(v:Value),(AV.x7 (.bool b)::ct)[j]?=some c->(Value.slice a 0 cap::us)[j]?=some v->CA w.heap.size S ⟨λ_ _=>none,Own.emp,w⟩ c v:=λb hb j c v hc hv=>by
        cases j with
        |zero=>
         obtain rfl:=ua hc;obtain rfl:=ua hv;exact .one (.rd (.emp b a cap hb))
        |succ j=>exact qw (j+1) c v hc hv
       cases hb:a.isNone with
       |true=>exact qN hP.ok ih h1 S w _ hw (by simpa using hl) (key true hb)
       |false=>exact qN hP.ok ih h2 S w _ hw (by simpa using hl) (key false hb)
     ·cases h
    ·cases h
   ·exact qN hP.ok ih h S w us hw hl qw
end
end Go.Eng
namespace Go.Eng
abbrev OkF(P : Program)(num : Nat → Nat)(p : Nat × AFn) : Prop := ∃ fn, P.funcs[num p.1]? = some fn ∧ okFn P num fn p.2 = true ∧ (fn.name == "runtime.NumGoroutine") = false
theorem Amo{P:Program}{num:Nat->Nat}(l:List (Nat×AFn))(h:∀p∈l,OkF P num p):ProgOK P num { fn:=λf=>l.lookup f,num:=num }:=by
 refine⟨?_,rfl⟩;intro f fa hf;have hm:(f,fa)∈l:=by
  clear h;change l.lookup f=some fa at hf;induction l with
  |nil=>simp at hf
  |cons x r ih=>
   obtain⟨k,v⟩:=x;rw[List.lookup_cons]at hf;cases hk:(f == k)with
   |true=>
    rw[hk]at hf;have:f=k:=by simpa using hk
    subst this;simp at hf;simp[hf]
   |false=>
    rw[hk]at hf;exact mb _ (ih hf)
 exact h (f,fa) hm
end Go.Eng

namespace Go.Eng
section
variable {L:Lib}
def Cl.le(C C':Cl):Prop:=(∀f vs r,C.pure f vs=some r->C'.pure f vs=some r)/\(∀f vs o r,C.fq f vs o=some r->C'.fq f vs o=some r)/\C.num=C'.num/\C.cmp=C'.cmp/\C.ff=C'.ff
theorem uP{x y:Option (AV×Own)}{r:Nat×v_}(h:∀q,x=some q->y=some q)(hr:OD x=some r):OD y=some r:=by
 cases x with
 |none=>simp[OD]at hr
 |some q=>rw[h q rfl];exact hr
theorem Aij{C C':Cl}(h:C.le C'){b9:u_}{ρ:AL->AV}{own:Own}{op:DU}{E:B3}(he:e9 C b9 ρ own op=some E):e9 C' b9 ρ own op=some E:=by
 cases op with
 |call f xs=>
  simp only[e9]at he⊢;split at he
  ·rename_i vs gx
   simp only[ka]at he⊢;obtain⟨r,hr,rfl⟩:=he;exact⟨r,h.1 f vs r hr,rfl⟩
  ·cases he
 |j5 f xs=>
  simp only[e9]at he⊢;split at he
  ·simp only[ka]at he⊢
   obtain⟨p,hp,rfl⟩:=he;have h1:=dX hp;exact⟨p,dW h1.1 λo ho=>h.2.1 f _ o _ (h1.2 o ho),rfl⟩
  ·simp only[ka]at he⊢
   obtain⟨r,hr,rfl⟩:=he;exact⟨r,h.2.1 f _ own r hr,rfl⟩
 |pg p f xs=>simp only[e9]at he⊢;rw[<-h.2.2.1];exact he
 |fe fs f a7 x c=>simp only[e9]at he⊢;rw[<-h.2.2.1,<-h.2.2.2.1,<-h.2.2.2.2];exact he
 |cz s f xs=>
  simp only[e9,ka]at he⊢;obtain⟨p,hp,rfl⟩:=he;exact⟨p,dZ.2 λo ho=>h.2.1 f _ o _ (dZ.1 hp o ho),rfl⟩
 |x5 s f xs=>
  simp only[e9]at he⊢;split at he
  ·rename_i vs gx
   simp only[ka]at he⊢;obtain⟨r,hr,rfl⟩:=he;exact⟨r,uP (h.2.1 f vs Own.emp) hr,rfl⟩
  ·cases he
 |o5 f xs=>
  simp only[e9]at he⊢;split at he
  ·rename_i hq
   rw[if_pos hq];split at he
   ·rename_i r hr
    rw[h.1 _ _ r hr];exact he
   ·cases he
  ·cases he
 |u6 x xs=>
  simp only[e9]at he⊢;rw[<-h.2.2.1];split at he
  ·split at he
   ·rename_i hg
    rw[if_pos hg];split at he
    ·split at he
     ·rename_i vs gx
      simp only[ka]at he⊢;obtain⟨r,hr,rfl⟩:=he;exact⟨r,h.1 _ vs r hr,rfl⟩
     ·cases he
    ·simp only[ka]at he⊢
     obtain⟨r,hr,rfl⟩:=he;exact⟨r,h.2.1 _ _ own r hr,rfl⟩
    ·split at he
     ·rename_i vs gx
      simp only[ka]at he⊢;obtain⟨r,hr,rfl⟩:=he;exact⟨r,h.1 _ vs r hr,rfl⟩
     ·cases he
   ·cases he
  ·cases he
 |_=>exact he
theorem AnD{C C':Cl}(h:C.le C'){o:AI}{st n9:St}(he:CQ C o st=some n9):CQ C' o st=some n9:=by
 unfold CQ at he⊢;split at he
 ·simp only[ka]at he⊢
  obtain⟨E,h1,h2⟩:=he;exact⟨E,Aij h h1,h2⟩
 ·exact he
 ·exact he
theorem N5{C C':Cl}(h:C.le C'):∀{l:List AI}{st n9:St},DC C l st=some n9->DC C' l st=some n9
 |[],st,n9,he=>he
 |o::r,st,n9,he=>by
  simp only[DC]at he⊢;cases hs:CQ C o st with
  |none=>simp[hs]at he
  |some A7=>
   rw[AnD h hs];simp only[hs]at he;exact N5 h he
theorem N4{C C':Cl}(h:C.le C'):∀{n n':Nat}{k:List It}{st n9:St},n<=n'->run C n k st=some n9->run C' n' k st=some n9:=by
 intro n;induction n with
 |zero=>intro n' k st n9 _ hr;simp[run]at hr
 |succ n ih=>
  intro n' k st n9 hn hr;obtain⟨q,rfl⟩:∃q,n'=q+1:=⟨n'-1,O'⟩;have hq:n<=q:=O'
  cases k with
  |nil=>exact hr
  |cons it k=>
   cases it with
   |c9 id=>simp only[run]at hr⊢;exact ih hq hr
   |ot ts ss=>simp only[run]at hr⊢;exact ih hq hr
   |lp c=>simp only[run]at hr⊢;exact ih hq hr
   |code c=>
    cases c with
    |skip=>simp only[run]at hr⊢;exact ih hq hr
    |ops l d=>
     simp only[run]at hr⊢;cases hs:DC C l st with
     |none=>simp[hs]at hr
     |some A7=>
      rw[N5 h hs];simp only[hs]at hr;exact ih hq hr
    |dr c ts ss=>simp only[run]at hr⊢;exact ih hq hr
    |scope c=>simp only[run]at hr⊢;exact ih hq hr
    |seq a b=>simp only[run]at hr⊢;exact ih hq hr
    |cond x a b=>
     simp only[run]at hr⊢;split at hr
     ·exact ih hq hr
     ·exact ih hq hr
     ·cases hr
    |block id c=>simp only[run]at hr⊢;exact ih hq hr
    |loop c=>simp only[run]at hr⊢;exact ih hq hr
    |exit id=>
     simp only[run]at hr⊢;split at hr
     ·exact ih hq hr
     ·cases hr
    |ret=>exact hr
theorem bS{I I':w_->Option (AV×Own)}(hI:∀vs r,I vs=some r->I' vs=some r){vs:w_}{r:AV}(h:JM I vs=some r):JM I' vs=some r:=by
 unfold JM at h⊢;cases he:I vs with
 |none=>simp[he]at h
 |some x=>rw[hI vs _ he];simpa [he]using h
theorem Amr{b:Bool}{I I':w_->Option (AV×Own)}(hI:∀vs r,I vs=some r->I' vs=some r){vs:w_}{r:AV}(h:N1 b I vs=some r):N1 b I' vs=some r:=by
 unfold N1 at h⊢;split at h
 ·split at h
  ·rename_i r1 r2 h1 h2
   rw[bS hI h1,bS hI h2];exact h
  ·cases h
 ·exact bS hI h
theorem yR:∀(n:Nat),(CN L n).le (CN L (n+1)):=by
 have fq:∀n,(∀f vs o r,DI L n f vs o=some r->DI L (n+1) f vs o=some r)->∀f vs r,FU L n f vs=some r->FU L (n+1) f vs=some r:=by
  intro n hI f vs r h;unfold FU N2 at h⊢;cases hL:L f with
  |none=>simp only[hL]at h⊢;exact h
  |some fa=>simp only[hL]at h⊢;exact Amr (λvs r h=>hI f vs _ r h) h
 intro n;induction n with
 |zero=>
  have:∀f vs o r,DI L 0 f vs o=some r->DI L 1 f vs o=some r:=λf vs o r h=>by simp[DI]at h
  exact⟨fq 0 this,this,rfl,rfl,rfl⟩
 |succ n ih=>
  have:∀f vs o r,DI L (n+1) f vs o=some r->DI L (n+2) f vs o=some r:=λf vs o r h=>by
   rw[X7]at h⊢;cases hL:L f with
   |none=>simp[hL]at h
   |some fn=>
    simp only[hL]at h⊢;split at h
    ·rename_i hp
     rw[if_pos hp];cases hr:run (CN L n) n [.code fn.body] ⟨CJ 0 vs,o⟩with
     |none=>simp[hr]at h
     |some st=>
      rw[N4 ih (Nat.le_succ n) hr];simpa [hr]using h
    ·cases h
  exact⟨fq (n+1) this,this,rfl,rfl,rfl⟩
theorem F6{n n':Nat}(h:n<=n'):(CN L n).le (CN L n'):=by
 induction h with
 |refl=>exact⟨λ_ _ _ h=>h,λ_ _ _ _ h=>h,rfl,rfl,rfl⟩
 |step _ ih=>exact⟨λf vs r h=>(yR _).1 f vs r (ih.1 f vs r h),λf vs o r h=>(yR _).2.1 f vs o r (ih.2.1 f vs o r h),rfl,rfl,rfl⟩
def Ev(L:Lib)(f:Nat)(vs:w_)(r:AV):Prop := ∃n,FU L n f vs=some r
def GW(L:Lib)(f:Nat)(vs:w_)(r:AV):Prop := ∃n,JM (λvs=>DI L n f vs Own.emp) vs=some r
def H1(L:Lib)(f:Nat)(vs:w_)(o:Own)(r:AV)(o':Own):Prop := ∃n,DI L n f vs o=some (r,o')
def NJ(L:Lib)(f:Nat)(vs:w_)(z:Nat)(es:v_):Prop := ∃n,OD (DI L n f vs Own.emp)=some (z,es)
theorem Ev.zm{f:Nat}{vs:w_}{r r':AV}(h:Ev L f vs r)(h':Ev L f vs r'):r=r':=by
 obtain⟨n,hn⟩:=h;obtain⟨n',ve⟩:=h';have h1:=(F6 (L:=L) (ea n n')).1 f vs r hn;have h2:=(F6 (L:=L) (ja n n')).1 f vs r' ve;rw[h1]at h2;exact ua h2
theorem H1.zm{f:Nat}{vs:w_}{o:Own}{r r':AV}{o1 o2:Own}(h:H1 L f vs o r o1)(h':H1 L f vs o r' o2):r=r'/\o1=o2:=by
 obtain⟨n,hn⟩:=h;obtain⟨n',ve⟩:=h';have h1:=(F6 (L:=L) (ea n n')).2.1 f vs o _ hn;have h2:=(F6 (L:=L) (ja n n')).2.1 f vs o _ ve;rw[h1]at h2;simpa using h2
def AK(L:Lib)(k:List It)(st:St)(Q:St->Prop):Prop := ∃n c n9,run (CN L c) n k st=some n9/\Q n9
def AO(L:Lib)(l:List AI)(k:List It)(st:St)(Q:St->Prop):Prop := ∃n c A7 n9,DC (CN L c) l st=some A7/\run (CN L c) n k A7=some n9/\Q n9
variable {k:List It} {st:St} {Q:St->Prop}
theorem L7{it:It}{k':List It}{A7:St}(h:∀(C:Cl)(n:Nat),run C (n+1) (it::k) st=run C n k' A7):AK L (it::k) st Q↔AK L k' A7 Q:=by
 constructor
 ·rintro⟨n,c,n9,hr,hq⟩
  cases n with
  |zero=>simp[run]at hr
  |succ n=>exact⟨n,c,n9,by rw[<-h];exact hr,hq⟩
 ·rintro⟨n,c,n9,hr,hq⟩
  exact⟨n+1,c,n9,by rw[h];exact hr,hq⟩
theorem Aeu:AK L [] st Q↔Q st:=by
 constructor
 ·rintro⟨n,c,n9,hr,hq⟩
  cases n with
  |zero=>simp[run]at hr
  |succ n=>simp only[run,ya]at hr;exact hr▸hq
 ·exactλh=>⟨1,0,st,rfl,h⟩
theorem Aem{id:Nat}:AK L (.c9 id::k) st Q↔AK L k st Q:=L7 λ_ _=>rfl
theorem Aeq{ts ss:u_}:AK L (.ot ts ss::k) st Q↔AK L k ⟨bk st.tm ts,st.own.drop ss⟩ Q:=L7 λ_ _=>rfl
theorem tH{c:BF}:AK L (.lp c::k) st Q↔AK L (.code c :: .lp c::k) st Q:=L7 λ_ _=>rfl
theorem Aez:AK L (.code .skip::k) st Q↔AK L k st Q:=L7 λ_ _=>rfl
theorem Aep{c:BF}{ts ss:u_}:AK L (.code (.dr c ts ss)::k) st Q↔AK L (.code c :: .ot ts ss::k) st Q:=L7 λ_ _=>rfl
theorem Aex{c:BF}:AK L (.code (.scope c)::k) st Q↔AK L (.code c::k) st Q:=L7 λ_ _=>rfl
theorem Aey{a b:BF}:AK L (.code (.seq a b)::k) st Q↔AK L (.code a :: .code b::k) st Q:=L7 λ_ _=>rfl
theorem Aen{id:Nat}{c:BF}:AK L (.code (.block id c)::k) st Q↔AK L (.code c :: .c9 id::k) st Q:=L7 λ_ _=>rfl
theorem Aes{c:BF}:AK L (.code (.loop c)::k) st Q↔AK L (.code c :: .lp c::k) st Q:=L7 λ_ _=>rfl
theorem Aer{id:Nat}{k':List It}(h:GG id k=some k'):AK L (.code (.exit id)::k) st Q↔AK L k' st Q:=L7 λC n=>by simp[run,h]
theorem Aew:AK L (.code .ret::k) st Q↔Q st:=by
 constructor
 ·rintro⟨n,c,n9,hr,hq⟩
  cases n with
  |zero=>simp[run]at hr
  |succ n=>simp only[run,ya]at hr;exact hr▸hq
 ·exactλh=>⟨1,0,st,rfl,h⟩
theorem Aeo{x:AL}{a b:BF}{t:Bool}(h:st.ev x = .bool t):AK L (.code (.cond x a b)::k) st Q↔if t=true then AK L (.code a::k) st Q else AK L (.code b::k) st Q:=by
 cases t
 ·simpa using L7 (k' := .code b::k) (A7:=st) λC n=>by simp[run,h]
 ·simpa using L7 (k' := .code a::k) (A7:=st) λC n=>by simp[run,h]
theorem Aev{l:List AI}{d:Bool}:AK L (.code (.ops l d)::k) st Q↔AO L l k st Q:=by
 constructor
 ·rintro⟨n,c,n9,hr,hq⟩
  cases n with
  |zero=>simp[run]at hr
  |succ n=>
   simp only[run]at hr;split at hr
   ·rename_i A7 hs
    exact⟨n,c,A7,n9,hs,hr,hq⟩
   ·cases hr
 ·rintro⟨n,c,A7,n9,hs,hr,hq⟩
  exact⟨n+1,c,n9,by simp[run,hs,hr],hq⟩
theorem AeJ:AO L [] k st Q↔AK L k st Q:=by
 constructor
 ·rintro⟨n,c,A7,n9,hs,hr,hq⟩
  simp only[DC,ya]at hs;exact⟨n,c,n9,hs▸hr,hq⟩
 ·rintro⟨n,c,n9,hr,hq⟩
  exact⟨n,c,st,n9,rfl,hr,hq⟩
theorem AeM{o:AI}{l:List AI}{A7:St}(h:∀C,CQ C o st=some A7):AO L (o::l) k st Q↔AO L l k A7 Q:=by
 constructor
 ·rintro⟨n,c,BK,n9,hs,hr,hq⟩
  simp only[DC,h]at hs;exact⟨n,c,BK,n9,hs,hr,hq⟩
 ·rintro⟨n,c,BK,n9,hs,hr,hq⟩
  exact⟨n,c,BK,n9,by simpa only[DC,h]using hs,hr,hq⟩
theorem AeK{d:Option Nat}{op:DU}{g:Option (Nat×Bool)}{b9:u_}{l:List AI}(h:F7 st g=some false):AO L (⟨d,op,g,b9⟩::l) k st Q↔AO L l k (st.dst d (.j4 [])) Q :=
 AeM λC=>by simp[CQ,h]
theorem XW(c:Nat):(CN L c).num=L.num:=rfl
theorem AeL{d:Option Nat}{op:DU}{g:Option (Nat×Bool)}{b9:u_}{l:List AI}{E:B3}(h:F7 st g=some true)(he:∀c,e9 (CN L c) b9 st.ev st.own op=some E):AO L (⟨d,op,g,b9⟩::l) k st Q↔AO L l k (st.app d E) Q:=by
 have h:∀c,CQ (CN L c) ⟨d,op,g,b9⟩ st=some (st.app d E):=λc=>by simp[CQ,h,he]
 constructor
 ·rintro⟨n,c,BK,n9,hs,hr,hq⟩
  simp only[DC,h]at hs;exact⟨n,c,BK,n9,hs,hr,hq⟩
 ·rintro⟨n,c,BK,n9,hs,hr,hq⟩
  exact⟨n,c,BK,n9,by simpa only[DC,h]using hs,hr,hq⟩
theorem AeB{d:Option Nat}{f:Nat}{xs:List AL}{g:Option (Nat×Bool)}{b9:u_}{l:List AI}{vs:w_}{r:AV}(h:F7 st g=some true)(hv:(xs.map st.ev).mapM (CX (st.own.s9 b9) true)=some vs)(hr:Ev L f vs r) :
  AO L (⟨d,.call f xs,g,b9⟩::l) k st Q↔AO L l k (st.dst d r) Q:=by
 have o4:∀c r',FU L c f vs=some r'->CQ (CN L c) ⟨d,.call f xs,g,b9⟩ st=some (st.dst d r'):=λc r' hc=>by
  have y6:(CN L c).pure f vs=some r':=hc;simp[CQ,h,e9,hv,y6,St.app]
 constructor
 ·rintro⟨n,c,BK,n9,hs,fy,hq⟩
  simp only[DC]at hs;cases hI:CQ (CN L c) ⟨d,.call f xs,g,b9⟩ st with
  |none=>simp[hI]at hs
  |some A7=>
   simp only[hI]at hs;cases hp:FU L c f vs with
   |none=>
    have y6:(CN L c).pure f vs=none:=hp;simp[CQ,h,e9,hv,y6]at hI
   |some r'=>
    obtain rfl:r'=r:=Ev.zm ⟨c,hp⟩ hr;rw[o4 c r' hp]at hI;obtain rfl:=ua hI;exact⟨n,c,BK,n9,hs,fy,hq⟩
 ·rintro⟨n,c,BK,n9,hs,fy,hq⟩
  obtain⟨c',y6⟩:=hr;have l1:=F6 (L:=L) (ea c c');have l2:=F6 (L:=L) (ja c c');refine⟨n,max c c',BK,n9,?_,N4 l1 (oa n) fy,hq⟩;simp only[DC];rw[o4 (max c c') r (l2.1 f vs r y6)];exact N5 l1 hs
theorem AeE{d:Option Nat}{f:Nat}{x:AL}{xs:List AL}{g:Option (Nat×Bool)}{b9:u_}{l:List AI}{vs:w_}{r:AV}(h:F7 st g=some true)(hx:st.ev x = .fn true f (L.num f) [])(hv:(xs.map st.ev).mapM (CX st.own true)=some vs)(hr:Ev L f vs r) :
  AO L (⟨d,.u6 x xs,g,b9⟩::l) k st Q↔AO L l k (st.dst d r) Q:=by
 have o4:∀c r',FU L c f vs=some r'->CQ (CN L c) ⟨d,.u6 x xs,g,b9⟩ st=some (st.dst d r'):=λc r' hc=>by
  have y6:(CN L c).pure f vs=some r':=hc;simp[CQ,h,e9,hx,XW,hv,y6,St.app]
 constructor
 ·rintro⟨n,c,BK,n9,hs,fy,hq⟩
  simp only[DC]at hs;cases hI:CQ (CN L c) ⟨d,.u6 x xs,g,b9⟩ st with
  |none=>simp[hI]at hs
  |some A7=>
   simp only[hI]at hs;cases hp:FU L c f vs with
   |none=>
    have y6:(CN L c).pure f vs=none:=hp;simp[CQ,h,e9,hx,XW,hv,y6]at hI
   |some r'=>
    obtain rfl:r'=r:=Ev.zm ⟨c,hp⟩ hr;rw[o4 c r' hp]at hI;obtain rfl:=ua hI;exact⟨n,c,BK,n9,hs,fy,hq⟩
 ·rintro⟨n,c,BK,n9,hs,fy,hq⟩
  obtain⟨c',y6⟩:=hr;have l1:=F6 (L:=L) (ea c c');have l2:=F6 (L:=L) (ja c c');refine⟨n,max c c',BK,n9,?_,N4 l1 (oa n) fy,hq⟩;simp only[DC];rw[o4 (max c c') r (l2.1 f vs r y6)];exact N5 l1 hs
theorem AeC{d:Option Nat}{f:Nat}{w:AV}{cs:w_}{x:AL}{xs:List AL}{g:Option (Nat×Bool)}{b9:u_}{l:List AI}{vs:w_}{r:AV}(h:F7 st g=some true)(hx:st.ev x = .fn true f (L.num f) (w::cs))(hv:(AV.agg (w::cs)::xs.map st.ev).mapM (CX st.own true)=some vs)(hr:Ev L f vs r) :
  AO L (⟨d,.u6 x xs,g,b9⟩::l) k st Q↔AO L l k (st.dst d r) Q:=by
 have o4:∀c r',FU L c f vs=some r'->CQ (CN L c) ⟨d,.u6 x xs,g,b9⟩ st=some (st.dst d r'):=λc r' hc=>by
  have y6:(CN L c).pure f vs=some r':=hc;simp[CQ,h,e9,hx,XW,hv,y6,St.app]
 constructor
 ·rintro⟨n,c,BK,n9,hs,fy,hq⟩
  simp only[DC]at hs;cases hI:CQ (CN L c) ⟨d,.u6 x xs,g,b9⟩ st with
  |none=>simp[hI]at hs
  |some A7=>
   simp only[hI]at hs;cases hp:FU L c f vs with
   |none=>
    have y6:(CN L c).pure f vs=none:=hp;simp[CQ,h,e9,hx,XW,hv,y6]at hI
   |some r'=>
    obtain rfl:r'=r:=Ev.zm ⟨c,hp⟩ hr;rw[o4 c r' hp]at hI;obtain rfl:=ua hI;exact⟨n,c,BK,n9,hs,fy,hq⟩
 ·rintro⟨n,c,BK,n9,hs,fy,hq⟩
  obtain⟨c',y6⟩:=hr;have l1:=F6 (L:=L) (ea c c');have l2:=F6 (L:=L) (ja c c');refine⟨n,max c c',BK,n9,?_,N4 l1 (oa n) fy,hq⟩;simp only[DC];rw[o4 (max c c') r (l2.1 f vs r y6)];exact N5 l1 hs
theorem AeF{d:Option Nat}{f:Nat}{xs:List AL}{g:Option (Nat×Bool)}{b9:u_}{l:List AI}{r:AV}(h:F7 st g=some true)(hq:(xs.map st.ev).all dq=true)(hr:Ev L f ((xs.map st.ev).map wz) r)(iq:KI r\/U3 r) :
  AO L (⟨d,.o5 f xs,g,b9⟩::l) k st Q↔AO L l k (st.dst d (NV r)) Q:=by
 have o4:∀c,FU L c f ((xs.map st.ev).map wz)=some r->CQ (CN L c) ⟨d,.o5 f xs,g,b9⟩ st=some (st.dst d (NV r)):=λc hc=>by
  have y6:(CN L c).pure f ((xs.map st.ev).map wz)=some r:=hc;simp only[CQ,h,e9];rw[if_pos hq,y6];simp only[if_pos iq,sa,St.app]
 constructor
 ·rintro⟨n,c,BK,n9,hs,fy,Dr⟩
  simp only[DC]at hs;cases hp:FU L c f ((xs.map st.ev).map wz)with
  |none=>
   have y6:(CN L c).pure f ((xs.map st.ev).map wz)=none:=hp;simp only[CQ,h,e9]at hs;rw[if_pos hq,y6]at hs;simp at hs
  |some r'=>
   obtain rfl:r'=r:=Ev.zm ⟨c,hp⟩ hr;rw[o4 c hp]at hs;exact⟨n,c,BK,n9,hs,fy,Dr⟩
 ·rintro⟨n,c,BK,n9,hs,fy,Dr⟩
  obtain⟨c',y6⟩:=hr;have l1:=F6 (L:=L) (ea c c');have l2:=F6 (L:=L) (ja c c');refine⟨n,max c c',BK,n9,?_,N4 l1 (oa n) fy,Dr⟩;simp only[DC];rw[o4 (max c c') (l2.1 f _ r y6)];exact N5 l1 hs
theorem AeG{d:Option Nat}{s f:Nat}{xs:List AL}{g:Option (Nat×Bool)}{b9:u_}{l:List AI}{vs:w_}{z:Nat}{es:v_}(h:F7 st g=some true)(hv:(xs.map st.ev).mapM (QB (st.own.s9 b9) true)=some vs)(hr:NJ L f vs z es)
  (ha:AO L l k (st.app d (.new s ⟨z,es⟩ (λt=>.row s t z 0 es.length))) Q):AO L (⟨d,.x5 s f xs,g,b9⟩::l) k st Q:=by
 obtain⟨n,c,BK,n9,hs,fy,hq⟩:=ha;obtain⟨c',y6⟩:=hr;have l1:=F6 (L:=L) (ea c c');have l2:=F6 (L:=L) (ja c c');have ru:OD ((CN L (max c c')).fq f vs Own.emp)=some (z,es):=uP (l2.2.1 f vs Own.emp) y6;refine⟨n,max c c',BK,n9,?_,N4 l1 (oa n) fy,hq⟩;simp only[DC];have:CQ (CN L (max c c')) ⟨d,.x5 s f xs,g,b9⟩ st=some (st.app d (.new s ⟨z,es⟩ (λt=>.row s t z 0 es.length))):=by
  simp only[CQ,h,e9,hv,ru,sa]
 rw[this];exact N5 l1 hs
def tQ(L:Lib)(s f:Nat)(vs:w_)(q:BZ)(r:AV)(q':BZ):Prop := ∃n,∀o:Own,o s=q->DI L n f vs o=some (r,o.put s q')
theorem AeI{d:Option Nat}{s f:Nat}{xs:List AL}{g:Option (Nat×Bool)}{b9:u_}{l:List AI}{r:AV}{q':BZ}(h:F7 st g=some true)(hr:tQ L s f (xs.map st.ev) (st.own s) r q')
  (ha:AO L l k (st.app d (.rp s q' r)) Q):AO L (⟨d,.cz s f xs,g,b9⟩::l) k st Q:=by
 obtain⟨n,c,BK,n9,hs,fy,hq⟩:=ha;obtain⟨c',y6⟩:=hr;have l1:=F6 (L:=L) (ea c c');have l2:=F6 (L:=L) (ja c c');have ru:dY (CN L (max c c')) f (xs.map st.ev) s (st.own s)=some (r,q'):=dZ.2 λo ho=>l2.2.1 f _ o _ (y6 o ho)
 refine⟨n,max c c',BK,n9,?_,N4 l1 (oa n) fy,hq⟩;simp only[DC];have:CQ (CN L (max c c')) ⟨d,.cz s f xs,g,b9⟩ st=some (st.app d (.rp s q' r)):=by
  simp only[CQ,h,e9,ru,sa]
 rw[this];exact N5 l1 hs
theorem AeA{d:Option Nat}{f s:Nat}{xs:List AL}{g:Option (Nat×Bool)}{l:List AI}{r:AV}{o':Own}(h:F7 st g=some true)(h0:o' s=⟨0,λ_=>none⟩)(hr:∃n,∀o:Own,(∀q,q≠s->o q=st.own q)->DI L n f (xs.map st.ev) o=some (r,o'.put s (o s)))
  (ha:AO L l k { (st.dst d r)with own:=o'.put s (st.own s) } Q):AO L (⟨d,.j5 f xs,g,[s]⟩::l) k st Q:=by
 obtain⟨n,c,BK,n9,hs,fy,hq⟩:=ha;obtain⟨c',y6⟩:=hr;have l1:=F6 (L:=L) (ea c c');have l2:=F6 (L:=L) (ja c c');have ru:OE (CN L (max c c')) f (xs.map st.ev) s st.own=some (r,o'):=dW h0 λo ho=>l2.2.1 f _ o _ (y6 o ho)
 refine⟨n,max c c',BK,n9,?_,N4 l1 (oa n) fy,hq⟩;simp only[DC];have:CQ (CN L (max c c')) ⟨d,.j5 f xs,g,[s]⟩ st=some { (st.dst d r)with own:=o'.put s (st.own s) }:=by
  simp only[CQ,h,e9,ru,sa,St.app]
 rw[this];exact N5 l1 hs
theorem AeD{d:Option Nat}{f:Nat}{xs:List AL}{g:Option (Nat×Bool)}{b9:u_}{l:List AI}{r:AV}{o':Own}(hb:∀s,b9≠[s])(h:F7 st g=some true)(hr:H1 L f (xs.map st.ev) st.own r o') :
  AO L (⟨d,.j5 f xs,g,b9⟩::l) k st Q↔AO L l k { (st.dst d r)with own:=o' } Q:=by
 have o4:∀c r' o1,DI L c f (xs.map st.ev) st.own=some (r',o1)->CQ (CN L c) ⟨d,.j5 f xs,g,b9⟩ st=some { (st.dst d r')with own:=o1 }:=λc r' o1 hc=>by
  have y6:(CN L c).fq f (xs.map st.ev) st.own=some (r',o1):=hc;have he:e9 (CN L c) b9 st.ev st.own (.j5 f xs)=some (.bz r' o1):=by
   match b9,hb with
   |[],_=>simp only[e9];rw[y6];rfl
   |[s],hb=>exact absurd rfl (hb s)
   |s::s'::q,_=>simp only[e9];rw[y6];rfl
  simp[CQ,h,he,St.app]
 constructor
 ·rintro⟨n,c,BK,n9,hs,fy,hq⟩
  simp only[DC]at hs;cases hI:CQ (CN L c) ⟨d,.j5 f xs,g,b9⟩ st with
  |none=>simp[hI]at hs
  |some A7=>
   simp only[hI]at hs;cases hp:DI L c f (xs.map st.ev) st.own with
   |none=>
    have y6:(CN L c).fq f (xs.map st.ev) st.own=none:=hp;have he:e9 (CN L c) b9 st.ev st.own (.j5 f xs)=none:=by
     match b9,hb with
     |[],_=>simp only[e9];rw[y6];rfl
     |[s],hb=>exact absurd rfl (hb s)
     |s::s'::q,_=>simp only[e9];rw[y6];rfl
    simp[CQ,h,he]at hI
   |some x=>
    obtain⟨r',o1⟩:=x;obtain⟨rfl,rfl⟩:=H1.zm ⟨c,hp⟩ hr;rw[o4 c r' o1 hp]at hI;obtain rfl:=ua hI;exact⟨n,c,BK,n9,hs,fy,hq⟩
 ·rintro⟨n,c,BK,n9,hs,fy,hq⟩
  obtain⟨c',y6⟩:=hr;have l1:=F6 (L:=L) (ea c c');have l2:=F6 (L:=L) (ja c c');refine⟨n,max c c',BK,n9,?_,N4 l1 (oa n) fy,hq⟩;simp only[DC];rw[o4 (max c c') r o' (l2.2.1 f _ _ _ y6)];exact N5 l1 hs
theorem AeH{d:Option Nat}{f:Nat}{cs:w_}{x:AL}{xs:List AL}{g:Option (Nat×Bool)}{b9:u_}{l:List AI}{r:AV}{o':Own}(h:F7 st g=some true)(hx:st.ev x = .fn false f (L.num f) cs)(hr:H1 L f (xs.map st.ev++cs) st.own r o') :
  AO L (⟨d,.u6 x xs,g,b9⟩::l) k st Q↔AO L l k { (st.dst d r)with own:=o' } Q:=by
 have o4:∀c r' o1,DI L c f (xs.map st.ev++cs) st.own=some (r',o1)->CQ (CN L c) ⟨d,.u6 x xs,g,b9⟩ st=some { (st.dst d r')with own:=o1 }:=λc r' o1 hc=>by
  have y6:(CN L c).fq f (xs.map st.ev++cs) st.own=some (r',o1):=hc;simp[CQ,h,e9,hx,XW,y6,St.app]
 constructor
 ·rintro⟨n,c,BK,n9,hs,fy,hq⟩
  simp only[DC]at hs;cases hI:CQ (CN L c) ⟨d,.u6 x xs,g,b9⟩ st with
  |none=>simp[hI]at hs
  |some A7=>
   simp only[hI]at hs;cases hp:DI L c f (xs.map st.ev++cs) st.own with
   |none=>
    have y6:(CN L c).fq f (xs.map st.ev++cs) st.own=none:=hp;simp[CQ,h,e9,hx,XW,y6]at hI
   |some x=>
    obtain⟨r',o1⟩:=x;obtain⟨rfl,rfl⟩:=H1.zm ⟨c,hp⟩ hr;rw[o4 c r' o1 hp]at hI;obtain rfl:=ua hI;exact⟨n,c,BK,n9,hs,fy,hq⟩
 ·rintro⟨n,c,BK,n9,hs,fy,hq⟩
  obtain⟨c',y6⟩:=hr;have l1:=F6 (L:=L) (ea c c');have l2:=F6 (L:=L) (ja c c');refine⟨n,max c c',BK,n9,?_,N4 l1 (oa n) fy,hq⟩;simp only[DC];rw[o4 (max c c') r o' (l2.2.1 f _ _ _ y6)];exact N5 l1 hs
theorem Aet{Q':St->Prop}(h:AK L k st Q)(hq:∀s,Q s->Q' s):AK L k st Q':=by
 obtain⟨n,c,n9,hr,hh⟩:=h;exact⟨n,c,n9,hr,hq _ hh⟩
theorem H1.intro{f:Nat}{fn:AFn}{vs:w_}{o:Own}{r:AV}{o':Own}(hL:L f=some fn)(hp:vs.length=fn.ch)(h:AK L [.code fn.body] ⟨CJ 0 vs,o⟩ (λst=>(fn.res.mapM (FY st)).map JS=some r/\st.own=o')):H1 L f vs o r o':=by
 obtain⟨n,c,n9,hr,h1,h2⟩:=h;refine⟨max n c+1,?_⟩;rw[X7];simp only[hL,hp,if_true];rw[N4 (F6 (L:=L) (ja n c)) (ea n c) hr];cases hm:fn.res.mapM (FY n9)with
 |none=>rw[hm]at h1;cases h1
 |some rs=>
  rw[hm]at h1;simp only[sa,ya]at h1;simp[hm,h1,h2]
theorem GW.intro{f:Nat}{fn:AFn}{vs:w_}{r:AV}(hL:L f=some fn)(hp:vs.length=fn.ch)(h:AK L [.code fn.body] ⟨CJ 0 vs,Own.emp⟩ (λst=>((fn.res.mapM (FY st)).map JS).bind (US st.own false)=some r/\AY r)):GW L f vs r:=by
 obtain⟨n,c,n9,hr,h1,h2⟩:=h;cases hm:(fn.res.mapM (FY n9)).map JS with
 |none=>rw[hm]at h1;cases h1
 |some r0=>
  rw[hm]at h1;simp only[dc]at h1;obtain⟨q,hq⟩:=H1.intro (o:=Own.emp) (r:=r0) (o':=n9.own) hL hp ⟨n,c,n9,hr,hm,rfl⟩;refine⟨q,?_⟩;unfold JM;simp[hq,h1,h2]
theorem GW.ev{f:Nat}{fn:AFn}{vs:w_}{r:AV}(hL:L f=some fn)(h:GW L f vs r)(hs:fn.rn=false:=by rfl):Ev L f vs r:=by
 obtain⟨n,h⟩:=h;have hs:L.rn f=false:=by simp only[Lib.rn,hL,hs]
 exact⟨n,by unfold FU N2 N1;simp only[hL];rw[hs];exact h⟩
theorem GW.cons{f:Nat}{q:Bool}{e:w_}{es:v_}{vs:w_}{r:AV}(h:GW L f (.sl q (e::es)::vs) r):Ev L f (.sl q (e::es)::vs) r:=by
 obtain⟨n,h⟩:=h;refine⟨n,?_⟩;obtain⟨fa,hL⟩:∃fa,L f=some fa:=by
  cases hL:L f with
  |some fa=>exact⟨fa,rfl⟩
  |none=>
   have e:DI L n f (.sl q (e::es)::vs) Own.emp=none:=by
    cases n with
    |zero=>rfl
    |succ n=>rw[X7,hL]
   unfold JM at h;simp only[e]at h;cases h
 unfold FU N2 N1;simp only[hL];split
 ·rename_i heq;simp at heq
 ·exact h
theorem GW.nil{f:Nat}{fn:AFn}{q:Bool}{vs:w_}{r:AV}(hL:L f=some fn)(h1:GW L f (.x7 (.bool true)::vs) r)(h2:GW L f (.x7 (.bool false)::vs) r)(hs:fn.rn=true:=by rfl):Ev L f (.sl q []::vs) r:=by
 obtain⟨n,h1⟩:=h1;obtain⟨n',h2⟩:=h2;have hs:L.rn f=true:=by simp only[Lib.rn,hL,hs]
 have k1:=bS (λvs r h=>(F6 (L:=L) (ea n n')).2.1 f vs Own.emp r h) h1;have k2:=bS (λvs r h=>(F6 (L:=L) (ja n n')).2.1 f vs Own.emp r h) h2;refine⟨max n n',?_⟩;unfold FU N2 N1;simp only[hL];rw[hs];simp only;have k1':JM (λvs=>DI L (max n n') f vs Own.emp) (.x7 (.bool true)::vs)=some r:=k1;have k2':JM (λvs=>DI L (max n n') f vs Own.emp) (.x7 (.bool false)::vs)=some r:=k2;rw[k1',k2'];simp
theorem Ev.intro{f:Nat}{fn:AFn}{vs:w_}{r:AV}(hL:L f=some fn)(hp:vs.length=fn.ch)(h:AK L [.code fn.body] ⟨CJ 0 vs,Own.emp⟩ (λst=>((fn.res.mapM (FY st)).map JS).bind (US st.own false)=some r/\AY r))(hs:fn.rn=false:=by rfl):Ev L f vs r :=
 (GW.intro hL hp h).ev hL hs
theorem Ev.told{f:Nat}{vs:w_}{r:AV}(hL:L f=none)(h:L.ext f vs=some r)(hc:AY r):Ev L f vs r:=by
 refine⟨0,?_⟩;unfold FU N2;simp only[hL,h];exact if_pos hc
end
end Go.Eng

namespace Go.Eng
section
variable {L:Lib} {k:List It} {tm:Tm} {own:Own} {Q:St->Prop} {l:List AI} {b9:u_} {d:Nat}
theorem cM(i:Nat)(v:AV)(r:Tm)(j:Nat):j7 ((i,v)::r) j=if j=i then v else j7 r j:=rfl
theorem AnY(j:Nat):j7 [] j = .any:=rfl
theorem AnV(i:Nat)(v:AV)(r:Tm)(l:u_):bk ((i,v)::r) l=if l.contains i then bk r l else(i,v)::bk r l:=rfl
theorem AnW(l:u_):bk [] l=[]:=rfl
theorem AkD(i:Nat)(v:AV)(r:w_):CJ i (v::r)=(i,v)::CJ (i+1) r:=rfl
end
end Go.Eng

namespace Go.Eng
section
variable {L:Lib} {k:List It} {tm:Tm} {own:Own} {st:St} {Q:St->Prop} {l:List AI} {b9:u_} {d:Nat} {dst:Option Nat}
def ZT(fn:AFn)(r:AV)(st:St):Prop:=((fn.res.mapM (FY st)).map JS).bind (US st.own false)=some r/\AY r
theorem Ev.fwd{f:Nat}{fn:AFn}{vs:w_}{r:AV}(hL:L f=some fn)(hp:vs.length=fn.ch)(h:AK L [.code fn.body] ⟨CJ 0 vs,Own.emp⟩ (ZT fn r))(hs:fn.rn=false:=by rfl):Ev L f vs r:=Ev.intro hL hp h hs
theorem GW.fwd{f:Nat}{fn:AFn}{vs:w_}{r:AV}(hL:L f=some fn)(hp:vs.length=fn.ch)(h:AK L [.code fn.body] ⟨CJ 0 vs,Own.emp⟩ (ZT fn r)):GW L f vs r:=GW.intro hL hp h
end
attribute [irreducible] ZT
end Go.Eng

namespace Go.Eng
def pw(n:Int):Int:=2^n.toNat
theorem GQ(n:Int):1<=pw n:=by
 have:0<pw n:=Int.pow_pos Y'
 omega
theorem RC{n m:Int}(h:n<=m):pw n<=pw m:=by
 unfold pw;have h':n.toNat<=m.toNat:=O'
 have h2:=Nat.pow_le_pow_right (n:=2) Y' h';have h3:((2^n.toNat:Nat):Int)<=((2^m.toNat:Nat):Int):=by exact_mod_cast h2
 simpa using h3
theorem iV{n:Int}(h:n<=62):pw n<=4611686018427387904:=RC (m:=62) h
theorem iW{n:Int}(h:1<=n):pw n=2*pw (n-1):=by
 unfold pw;have e:n.toNat=(n-1).toNat+1:=O'
 rw[e,Int.pow_succ,Od]
theorem Zo{a:Int}(h:0<=a)(h':a<=9223372036854775807):IntKind.i64.wrap a=a:=IntWalk.i64_in _ ⟨O',h'⟩
theorem And{k2:IntKind}{n:Int}(h:0<=n/\n<=62):C5 .shl .i64 1 k2 n=some (.int .i64 (pw n)):=by
 have h1:=iV h.2;have h2:=GQ n;have e:(1:Int)*2^(min n.toNat IntKind.i64.bits)=pw n:=by
  have:min n.toNat IntKind.i64.bits=n.toNat:=by simp only[IntKind.bits];omega
  rw[this,Int.one_mul];rfl
 simp only[C5];rw[if_neg O',e,Zo O' O']
theorem Ane{k2:IntKind}{a n:Int}(h:0<=n/\n<=63):C5 .shr .i64 a k2 n=some (.int .i64 (a/pw n)):=by
 have h2:=GQ n;have e:(2:Int)^(min n.toNat IntKind.i64.bits)=pw n:=by
  have:min n.toNat IntKind.i64.bits=n.toNat:=by simp only[IntKind.bits];omega
  rw[this];rfl
 simp only[C5];rw[if_neg O',e,Int.fdiv_eq_ediv_of_nonneg _ O']
theorem uR{a p n:Int}(hp:p=pw n)(h:0<=n/\n<=62):C5 .and .i64 a .i64 (p-1)=some (.int .i64 (a%p)):=by
 have h1:=iV h.2;have h2:=GQ n;simp only[C5,if_true];have hn:n.toNat<=64:=O'
 have e0:pw n=((2^n.toNat:Nat):Int):=by simp[pw]
 have e1:(Ac IntKind.i64.bits (p-1)).toNat=2^n.toNat-1:=by
  have hq:(2:Nat)^n.toNat<=4611686018427387904:=by
   have:((2^n.toNat:Nat):Int)<=4611686018427387904:=by rw[<-e0];exact h1
   omega
  rw[fc];simp only[IntKind.bits];rw[hp,e0];have hz:1<=2^n.toNat:=Nat.one_le_two_pow;omega
 have e2:(Ac IntKind.i64.bits a).toNat=(a%18446744073709551616).toNat:=by
  rw[fc];rfl
 have e3:((a%18446744073709551616).toNat%2^n.toNat:Nat)=(a%pw n).toNat:=by
  have hd:(pw n) ∣ 18446744073709551616:=by
   refine⟨2^(64-n.toNat),?_⟩;unfold pw;rw[<-Int.pow_add,show n.toNat+(64-n.toNat)=64 by omega];rfl
  have h3:(a%18446744073709551616)%pw n=a%pw n:=Int.emod_emod_of_dvd a hd;have h4:(((a%18446744073709551616).toNat%2^n.toNat:Nat):Int)=(a%18446744073709551616)%pw n:=by
   rw[Int.natCast_emod,<-e0,Pc O']
  have h5:0<=a%pw n:=zc _ O';omega
 have h5:0<=a%pw n:=zc _ O';have h6:a%pw n<pw n:=Hc _ O';rw[BitVec.toNat_and,e1,Nat.and_two_pow_sub_one_eq_mod,e2,e3,hp,Pc h5,Zo h5 O']
theorem Af2{a:Int}:C5 .and .i64 a .i64 1=some (.int .i64 (a%2)):=uR (p:=2) (n:=1) rfl ⟨Y',Y'⟩
theorem Ya{a m:Int}(hm:0<m):a.tmod m=if 0<=a\/a%m=0 then a%m else a%m-m:=by
 have h:=Int.tmod_eq_emod (a:=a) (b:=m);rw[h];have hd:m ∣ a↔a%m=0:=nc;by_cases h0:0<=a\/a%m=0
 ·rw[if_pos h0,if_pos (by rcases h0 with h0|h0;exact Or.inl h0;exact Or.inr (hd.2 h0))];omega
 ·rw[if_neg h0,if_neg (λh=>h0 (h.imp id hd.1))]
  have:(m.natAbs:Int)=m:=O'
  omega
theorem Xx{a m:Int}(hm:0<m):a.tdiv m=if 0<=a\/a%m=0 then a/m else a/m+1:=by
 have h:=Int.tdiv_eq_ediv (a:=a) (b:=m);rw[h];have hd:m ∣ a↔a%m=0:=nc;by_cases h0:0<=a\/a%m=0
 ·rw[if_pos h0,if_pos (by rcases h0 with h0|h0;exact Or.inl h0;exact Or.inr (hd.2 h0))];omega
 ·rw[if_neg h0,if_neg (λh=>h0 (h.imp id hd.1)),Int.sign_eq_one_of_pos hm]
theorem Aig{a m:Int}(hm:1<=m)(h:-9223372036854775808<=a/\a<=9223372036854775807):-9223372036854775808<=a/m/\a/m<=9223372036854775807:=by
 constructor
 ·rw[Hb O']
  have:=Bb (a := -9223372036854775808) (b:=m) (c:=1) O' hm
  omega
 ·have:a/m<9223372036854775808:=by
   rw[Gb O'];have:=Ab (c:=9223372036854775808) (a:=1) (b:=m) hm O'
   omega
  omega
theorem xQ{a m:Int}(hm:2<=m)(h:-9223372036854775808<=a/\a<=9223372036854775807):-4611686018427387904<=a/m/\a/m<=4611686018427387904:=by
 constructor
 ·rw[Hb O']
  have:=Bb (a := -4611686018427387904) (b:=m) (c:=2) O' hm
  omega
 ·have:a/m<4611686018427387904+1:=by
   rw[Gb O'];have:=Ab (c:=4611686018427387905) (a:=2) (b:=m) hm O'
   omega
  omega
theorem Akp{v h:Int}(hh:1<=h):(v/h)%2=if h<=v%(2*h)then 1 else 0:=by
 have e:v/h=v%(2*h)/h+2*(v/(2*h)):=by
  conv=>lhs;rw[<-Int.emod_add_mul_ediv v (2*h)]
  rw[show 2*h*(v/(2*h))=h*(2*(v/(2*h)))by rw[Od 2 h,Int.mul_assoc],Int.add_mul_ediv_left _ _ O']
 have h0:0<=v%(2*h):=zc _ O';have h1:v%(2*h)<2*h:=Hc _ O';rw[e];by_cases hc:h<=v%(2*h)
 ·have:v%(2*h)/h=1:=by
   have a1:1<=v%(2*h)/h:=by rw[Hb O'];omega
   have a2:v%(2*h)/h<2:=by rw[Gb O'];omega
   omega
  rw[if_pos hc,this];omega
 ·have:v%(2*h)/h=0:=Int.ediv_eq_zero_of_lt h0 O'
  rw[if_neg hc,this];omega
end Go.Eng

namespace Go.Eng
theorem ZB(ts:u_)(j:Nat):∀tm:Tm,j7 (bk tm ts) j=if ts.contains j then .any else j7 tm j
 |[]=>by simp[AnW,AnY]
 |(i,u)::r=>by
  rw[AnV];by_cases h:ts.contains i=true
  ·rw[if_pos h,ZB ts j r,cM]
   by_cases h2:j=i
   ·subst h2;rw[if_pos h,if_pos h]
   ·rw[if_neg h2]
  ·rw[if_neg h,cM,cM,ZB ts j r]
   by_cases h2:j=i
   ·subst h2;rw[if_pos rfl,if_pos rfl,if_neg h]
   ·rw[if_neg h2,if_neg h2]
def K0(j:Nat):u_->Bool
 |[]=>false
 |i::r=>bif za j i then true else K0 j r
abbrev AZ(n:Int):w_:=[.int .i64 n]
end Go.Eng

namespace Go.Eng
inductive BA where
 |bx (cs:w_)
 |rw(z:Nat) (es:v_)
 |bs (z:Nat) (es:v_)
 |mx (rows:List (p_))
 |hx (i:Nat) (v:AV) (rows:List (p_))
 |vw (w:u_) (rows:List (p_))
abbrev Mem:=List (Nat×Nat×BA)
def e8:Mem->Nat->Option (Nat×BA)
 |[],_=>none
 |(k,s,c)::r,j=>bif za j k then some (s,c)else e8 r j
def c8(M:Mem)(k t:Nat):Option BA:=match e8 M k with
 |none=>none
 |some (_,c)=>match t with
  |0=>some c
  |i+1=>match c with
   |.mx rows=>match rows[i]? with
    |some (some (z,es))=>some (.rw z es)
    |_=>none
   |.hx _ _ rows=>match rows[i]? with
    |some (some (z,es))=>some (.rw z es)
    |_=>none
   |.vw _ rows=>match rows[i]? with
    |some (some (z,es))=>some (.rw z es)
    |_=>none
   |_=>none
def u9(j:Nat):Mem->Mem
 |[]=>[]
 |(k,s,c)::r=>bif za j k then u9 j r else(k,s,c)::u9 j r
def tg:Tm->Nat->AV
 |[],_=>.any
 |(i,v)::r,j=>bif za j i then v else tg r j
def bit(m i:Nat):Bool:=za (Jd (yd m i) 1) 1
def mask:Nat->u_->Nat
 |m,[]=>m
 |m,t::ts=>mask (dd m (pc 1 t)) ts
def wh(m:Nat):Tm->Tm
 |[]=>[]
 |(i,v)::r=>bif bit m i then wh m r else(i,v)::wh (dd m (pc 1 i)) r
def fN(n:Nat)(K:Nat->Prop):Prop:=match n with
 |0=>K 0
 |k+1=>K (k+1)
def ug:AV->Bool
 |.int _ _=>true |.bool _=>true |.x7 _=>true |.sl _ _=>true |.nil=>true
 |_=>false
def EM:w_->Bool
 |[]=>true
 |v::r=>bif ug v then EM r else false
def VU:v_->Bool
 |[]=>true
 |v::r=>bif EM v then VU r else false
def LX(s:Nat):AV->Bool
 |.row k _ _ _ _=>za k s |.ptr k _ _ _=>za k s |.mp k _=>za k s
 |_=>false
def J9(s:Nat):w_->Bool
 |[]=>false
 |v::r=>bif LX s v then true else J9 s r
def UP(s:Nat):v_->Bool
 |[]=>false
 |v::r=>bif J9 s v then true else UP s r
def RD(s:Nat):AV->Bool
 |.agg cs=>J9 s cs
 |.fn _ _ _ cs=>J9 s cs
 |v=>LX s v
def YZ(s:Nat):w_->Bool
 |[]=>false
 |v::r=>bif RD s v then true else YZ s r
def N3(s:Nat):AV->Bool
 |.j4 vs=>YZ s vs
 |v=>RD s v
def JU(s:Nat):Tm->Bool
 |[]=>false
 |(_,v)::r=>bif N3 s v then true else JU s r
def JT(s:Nat):BA->Bool
 |.bx cs=>J9 s cs
 |.rw _ _=>false
 |.bs _ es=>UP s es
 |.mx _=>false
 |.hx _ _ _=>false
 |.vw _ _=>false
def IB(s:Nat):Mem->Bool
 |[]=>false
 |(k,_,c)::r=>bif za s k then true else bif JT s c then true else IB s r
def NL(s:Nat):AV->Bool
 |.row k t _ _ _=>bif za k s then(match t with|0=>false|_+1=>true)else false
 |.ptr k t _ _=>bif za k s then(match t with|0=>false|_+1=>true)else false
 |.mp k t=>bif za k s then(match t with|0=>false|_+1=>true)else false
 |_=>false
def OG(s:Nat):w_->Bool
 |[]=>false
 |v::r=>bif NL s v then true else OG s r
def VM(s:Nat):AV->Bool
 |.agg cs=>OG s cs
 |.fn _ _ _ cs=>OG s cs
 |v=>NL s v
def XT(s:Nat):w_->Bool
 |[]=>false
 |v::r=>bif VM s v then true else XT s r
def RU(s:Nat):AV->Bool
 |.j4 vs=>XT s vs
 |v=>VM s v
def OH(s:Nat):Tm->Bool
 |[]=>false
 |(_,v)::r=>bif RU s v then true else OH s r
def XV(s:Nat):v_->Bool
 |[]=>false
 |v::r=>bif OG s v then true else XV s r
def QP(s:Nat):BA->Bool
 |.bx cs=>OG s cs
 |.bs _ es=>XV s es
 |_=>false
def MD(s:Nat):Mem->Bool
 |[]=>false
 |(_,_,c)::r=>bif QP s c then true else MD s r
def used(k:Nat)(tm:Tm)(M:Mem):Bool:=bif IB k M then true else JU k tm
def iS(tm:Tm)(M:Mem):u_->(Nat->Prop)->Prop
 |[],_=>False
 |k::r,K=>bif used k tm M then iS tm M r K else K k
def HG(s:Nat)(tm:Tm)(M:Mem)(K:Nat->Prop):Prop:=iS tm M [s,s+1000000,s+2000000,s+3000000] K
def fL:w_->(w_->Prop)->Prop
 |[],K=>K []
 |v::r,K=>fL r λr'=>K (v::r')
def fV(v:AV)(K:AV->Prop):Prop:=match v with
 |.int k n=>K (.int k n) |.bool b=>K (.bool b) |.sl l es=>K (.sl l es) |.row s t z o n=>K (.row s t z o n)
 |.nil=>K .nil |.ptr s t i j=>K (.ptr s t i j) |.mp s t=>K (.mp s t) |.x9 cs=>K (.x9 cs) |.agg cs=>fL cs λcs=>K (.agg cs)
 |.fn p f g cs=>fL cs λcs=>K (.fn p f g cs)
 |.j4 vs=>fL vs λvs=>K (.j4 vs) |.x7 c=>K (.x7 c) |.any=>False
def fC(v:AV)(K:w_->Prop):Prop:=match v with
 |.agg cs=>fL cs K
 |.fn _ _ _ _=>False
 |.j4 _=>False
 |.any=>False
 |v=>fV v λv=>K [v]
def fB(b:Bool)(K:Bool->Prop):Prop:=match b with
 |true=>K true
 |false=>K false
def fT:Tm->(Tm->Prop)->Prop
 |[],K=>K []
 |(i,v)::r,K=>fT r λr'=>K ((i,v)::r')
def fM:Mem->(Mem->Prop)->Prop
 |[],K=>K []
 |(k,s,c)::r,K=>fM r λr'=>K ((k,s,c)::r')
def fF(v:AV)(K:AV->Prop):Prop:=match v with
 |.int k n=>K (.int k n) |.bool b=>K (.bool b) |.sl l es=>K (.sl l es) |.row s t z o n=>K (.row s t z o n)
 |.nil=>K .nil |.ptr s t i j=>K (.ptr s t i j) |.mp s t=>K (.mp s t) |.x7 c=>K (.x7 c)|_=>False
def f2(v:AV)(K:AV->Prop):Prop:=match v with
 |.int k n=>K (.int k n) |.bool b=>K (.bool b) |.sl l es=>K (.sl l es) |.row s t z o n=>K (.row s t z o n)
 |.nil=>K .nil |.ptr s t i j=>K (.ptr s t i j) |.mp s t=>K (.mp s t) |.x7 c=>K (.x7 c) |.agg cs=>fL cs λcs=>K (.agg cs) |.fn p f g cs=>fL cs λcs=>K (.fn p f g cs)|_=>False
def rk(agg:Bool)(ds:w_)(K:AV->Prop):Prop:=match agg with
 |true=>K (.agg ds)
 |false=>match ds with
  |[c]=>fF c K
  |_=>False
def AF(p q A B:Prop):Prop:=(p->A)/\(q->B)
def AW(p A:Prop):Prop:=p/\A
def AC(op:BinOp)(k:IntKind)(a:Int)(k':IntKind)(b:Int)(K:AV->Prop):Prop := ∃v,C5 op k a k' b=some v/\K v
def EC(op:UnOp)(k:IntKind)(n:Int)(K:AV->Prop):Prop := ∃v,UU op (.int k n)=some v/\K v
structure A0(k:IntKind)(n:Int)(K:Int->Prop):Prop where h:K (k.wrap n)
def AX(es:v_)(a:Int)(z:Nat)(K:w_->Prop):Prop:=0<=a/\∃cs,es[a.toNat]?=some cs/\cs.length=z/\K cs
def BD(es:v_)(i j n:Nat)(K:w_->Prop):Prop := ∃cs ds,es[i]?=some cs/\part cs j n=some ds/\K ds
def BG(es:v_)(i j:Nat)(vs:w_)(K:v_->Prop):Prop := ∃cs,es[i]?=some cs/\j+vs.length<=cs.length/\K (es.set i (splice cs j vs))
def CM(a b:Int)(bytes:Nat)(zero:w_)(K:v_->Nat->Prop):Prop:=(0<=a/\a<=b/\b*bytes<=ET/\b<=9223372036854775807)/\K (Da a.toNat zero) a.toNat
structure AM(es:v_)(K:Nat->Prop):Prop where h:K es.length
def BS(es:v_)(len:Nat)(ys:v_)(z bytes:Nat)(K:v_->Nat->Prop):Prop :=
 len<=es.length/\(∀e∈ys,e.length=z)/\(len+ys.length)*bytes<=ET/\len+ys.length<=9223372036854775807/\K (es.take len++ys) (len+ys.length)
def D7(ys:v_)(z bytes:Nat)(K:v_->Nat->Prop):Prop :=
 (∀e∈ys,e.length=z)/\ys.length*bytes<=ET/\ys.length<=9223372036854775807/\K ys ys.length
def Aoo(es:v_)(off len:Nat)(ys:v_)(z:Nat)(K:v_->Nat->Prop):Prop :=
 off+len<=es.length/\(∀e∈ys,e.length=z)/\K (es.take off++ys.take len++es.drop (off+min ys.length len)) (min ys.length len)
def BR(es:v_)(off len:Nat)(K:v_->Prop):Prop:=off+len<=es.length/\K ((es.drop off).take len)
def G5:w_->Bool
 |[]=>true
 |v::r=>match v with
  |.int _ _=>G5 r |.bool _=>G5 r |.x7 _=>G5 r |.sl _ _=>G5 r
  |_=>false
def nl:AV->AV
 |.nil=>.sl false []
 |v=>v
def NZ:w_->Bool
 |[]=>true
 |v::r=>match v with
  |.int _ _=>NZ r |.bool _=>NZ r |.x7 _=>NZ r |.sl _ _=>NZ r |.nil=>NZ r
  |_=>false
def A5(es:v_)(off len:Nat)(K:v_->Prop):Prop:=off+len<=es.length/\(∀e∈es,NZ e=true)/\K (((es.drop off).take len).map λe=>e.map nl)
def HF(rows:List (p_))(i:Nat)(K:p_->Prop):Prop := ∃r,rows[i]?=some r/\K r
def E5(rows:List (p_))(i:Nat)(K:Nat->v_->Prop):Prop := ∃z es,rows[i]?=some (some (z,es))/\K z es
def MB(rows:List (p_))(i z:Nat)(es:v_)(K:List (p_)->Prop):Prop:=i<rows.length/\K (rows.set i (some (z,es)))
def kP(rows:List (p_))(i z:Nat)(es es':v_)(K:List (p_)->Prop):Prop:=es'.length=es.length/\K (rows.set i (some (z,es')))
def U9(a b:Int)(bytes:Nat)(K:List (p_)->Nat->Prop):Prop:=(0<=a/\a<=b/\b*bytes<=ET/\b<=9223372036854775807)/\K (Da a.toNat none) a.toNat
def JY(rows:List (p_))(len:Nat)(r:p_)(bytes:Nat)(K:List (p_)->Nat->Prop):Prop :=
 len=rows.length/\(len+1)*bytes<=ET/\len+1<=9223372036854775807/\K (rows++[r]) (len+1)
def L1(q:Bool):List (p_)->v_
 |[]=>[]
 |none::r=>[.sl false []]::L1 q r
 |some (_,es)::r=>[.sl q es]::L1 q r
def HO(q:Bool)(rows:List (p_))(off len:Nat)(K:v_->Prop):Prop :=
 off=0/\len=rows.length/\(∀z es,some (z,es)∈rows->∀e∈es,G5 e=true)/\K (L1 q rows)
def C9(lo hi:Option Int)(len:Nat)(K:Nat->Nat->Prop):Prop :=
 ∃a h:Nat,(match lo with|none=>a=0|some x=>0<=x/\a=x.toNat)/\(match hi with|none=>h=len|some x=>0<=x/\x<=len/\h=x.toNat)/\a<=h/\K a h
def GE(z:Nat)(es:v_)(lo hi:Option Int)(K:v_->Prop):Prop:=(∀e∈es,e.length=z)/\C9 lo hi es.length λa h=>K ((es.take h).drop a)
def AB(L:Lib)(f:Nat)(vs:w_)(K:AV->Prop):Prop := ∃r,Ev L f vs r/\K r
def AeN(n:Nat)(cs ds:w_)(K:Bool->Prop):Prop := ∃a b,oL cs=some a/\oL ds=some b/\a.length=n/\b.length=n/\K (decide (a=b))
def gN:w_->Bool
 |[]=>true
 |.int _ _::r=>gN r
 |_=>false
def QD(L:Lib)(f:Nat)(vs:w_)(K:Nat->v_->Nat->Prop):Prop := ∃z es n,NJ L f vs z es/\n=es.length/\K z es n
abbrev F5:=Nat->Nat->Nat×Nat
def A7(σ:F5):AV->AV
 |.row k t z o n=>.row (σ k t).1 (σ k t).2 z o n
 |.ptr k t i j=>.ptr (σ k t).1 (σ k t).2 i j
 |.mp k t=>.mp (σ k t).1 (σ k t).2
 |v=>v
def BK(σ:F5):AV->AV
 |.agg cs=>.agg (cs.map (A7 σ))
 |.fn p f g cs=>.fn p f g (cs.map (A7 σ))
 |v=>A7 σ v
def BB(σ:F5):AV->AV
 |.j4 vs=>.j4 (vs.map (BK σ))
 |v=>BK σ v
def CE(σ:F5)(k:Nat):Nat->List (p_)->v_
 |_,[]=>[]
 |i,none::r=>[.nil]::CE σ k (i+1) r
 |i,some (z,es)::r=>[.row (σ k (i+1)).1 (σ k (i+1)).2 z 0 es.length]::CE σ k (i+1) r
def BA.c9(σ:F5)(k:Nat):BA->C2
 |.bx cs=>⟨cs.length,[cs.map (A7 σ)]⟩
 |.rw z es=>⟨z,es⟩
 |.bs z es=>⟨z,es.map λcs=>cs.map (A7 σ)⟩
 |.mx rows=>⟨1,CE σ k 0 rows⟩
 |.hx i v rows=>⟨1,(CE σ k 0 rows).set i [v]⟩
 |.vw w rows=>⟨1,w.map λt=>((CE σ k 0 rows)[t]?).getD []⟩
def BA.isRow:BA->Bool
 |.bx _=>false
 |_=>true
def E2(s:Nat):Bool:=bif Nat.blt s 900000 then true else Mb 960000 s
structure H4(σ:F5)(own:Own)(M:Mem):Prop where
 site:∀k s c,e8 M k=some (s,c)->(σ k 0).1=s
 c9:∀k t c,c8 M k t=some c->(own (σ k t).1).c9 (σ k t).2=some (c.c9 σ k)
 old:∀k t c,c8 M k t=some c->(σ k t).2<(own (σ k t).1).j6
 inj:∀k t k' t' c c',c8 M k t=some c->c8 M k' t'=some c'->σ k t=σ k' t'->k=k'/\t=t'
 low:∀k t c,c8 M k t=some c->c.isRow=true->E2 (σ k t).1=true
structure RX(σ:F5)(tm:Tm)(M:Mem)(st:St):Prop where
 tm:∀j,tg tm j = .any\/j7 st.tm j=BB σ (tg tm j)
 sat:H4 σ st.own M
def SQ(Q:Tm->Mem->Prop)(st:St):Prop := ∃σ tm M,RX σ tm M st/\Q tm M
def AA(L:Lib)(k:List It)(tm:Tm)(M:Mem)(Q:Tm->Mem->Prop):Prop := ∀σ st,RX σ tm M st->AK L k st (SQ Q)
def tJ(L:Lib)(l:List AI)(k:List It)(tm:Tm)(M:Mem)(Q:Tm->Mem->Prop):Prop := ∀σ st,RX σ tm M st->AO L l k st (SQ Q)
def A8(L:Lib)(f:Nat)(vs:w_)(tm:Tm)(M:Mem)(K:AV->Mem->Prop):Prop :=
 ∀σ own,H4 σ own M->∃r o8 σ' M',H1 L f (vs.map (BB σ)) own (BB σ' r) o8/\H4 σ' o8 M'/\(∀j,BB σ' (tg tm j)=BB σ (tg tm j))/\K r M'
def YS(s:Nat):Mem->Bool
 |[]=>true
 |(_,s',_)::r=>bif za s' s then false else YS s r
def FrS(L:Lib)(s f:Nat):Prop :=
 ∀n vs (o0 o2:Own) r o',(∀t,o0.get s t=none)->(∀q,q≠s->o2 q=o0 q)->DI L n f vs o0=some (r,o')->DI L n f vs o2=some (r,o'.put s (o2 s))
def AeS(L:Lib)(s f:Nat)(vs:w_)(tm:Tm)(M:Mem)(K:AV->Mem->Prop):Prop :=
 FrS L s f/\(E2 s=false/\YS s M=true)/\A8 L f vs tm M λr M'=>YS s M'=true/\K r M'
def AeT(L:Lib)(s f key:Nat)(rest:w_)(M:Mem)(K:AV->Mem->Prop):Prop :=
 ∃(cells il:w_) (kd:IntKind) (n:Int),e8 M key=some (s,.bx cells)/\EM cells=true/\EM il=true/\(∀(t:Nat)(q:BZ),q.c9 t=some ⟨cells.length,[cells]⟩->tQ L s f (.ptr s t 0 0::rest) q (.int kd n) (q.q9 t (some ⟨il.length,[il]⟩)))/\K (.int kd n) ((key,s,.bx il)::M)
def cv:AV->AV
 |.agg cs=>bif EM cs then .agg cs else .any
 |.j4 []=>.j4 []
 |.x9 _=>.any
 |.fn p f g []=>.fn p f g []
 |v=>bif ug v then v else .any
def ex(tm:Tm):AL->AV
 |.t n=>tg tm n
 |.c v=>cv v
def kq(k k':IntKind):Bool:=decide (k=k')
def lB(op:BinOp)(k:IntKind)(a:Int)(k':IntKind)(b:Int)(K:AV->Prop):Prop:=match op with
 |.lss=>bif kq k k' then AF (a<b) (b<=a) (K (.bool true)) (K (.bool false))else False
 |.leq=>bif kq k k' then AF (a<=b) (b<a) (K (.bool true)) (K (.bool false))else False
 |.gtr=>bif kq k k' then AF (b<a) (a<=b) (K (.bool true)) (K (.bool false))else False
 |.geq=>bif kq k k' then AF (b<=a) (a<b) (K (.bool true)) (K (.bool false))else False
 |.eql=>bif kq k k' then AF (a=b) (a≠b) (K (.bool true)) (K (.bool false))else False
 |.neq=>bif kq k k' then AF (a≠b) (a=b) (K (.bool true)) (K (.bool false))else False
 |op=>AC op k a k' b K
noncomputable def WD(mx:Bool)(k:IntKind)(K:AV->Prop)(a:Int)(l:w_):Prop :=
 List.rec (motive:=λ_=>Int->Prop) (λa=>K (.int k a)) (λv _ ih a=>match v with
  |.int _ b=>bif mx then AF (a<b) (b<=a) (ih b) (ih a)else AF (b<a) (a<=b) (ih b) (ih a)
  |_=>False) l a
def yz:w_->Nat->AV
 |[],_=>.any
 |v::_,0=>v
 |_::r,n+1=>yz r n
def OZ(s:Nat):u_->Bool
 |[]=>true
 |b9=>!(K0 s b9)
def WH:u_->Bool
 |[]=>true
 |s::r=>bif E2 s then false else WH r
def rH(M:Mem)(k t:Nat)(K:Nat->v_->Prop):Prop:=match e8 M k with
 |some (_,c)=>match t with
  |0=>match c with
   |.rw z es=>K z es
   |_=>False
  |i+1=>match c with
   |.mx rows=>E5 rows i K
   |_=>False
 |none=>False
def aF(M:Mem)(v:AV)(K:v_->Prop):Prop:=match v with
 |.sl _ es=>K es
 |.nil=>K []
 |.x7 (.bool _)=>K []
 |.row key t z off len=>rH M key t λz' es=>bif za z z' then BR es off len K else False
 |_=>False
def W1(q:Bool)(M:Mem)(b9:u_)(v:AV)(K:AV->Prop):Prop:=match v with
 |.int k n=>K (.int k n)
 |.bool b=>K (.bool b)
 |.sl l es=>K (.sl l es)
 |.x7 c=>K (.x7 c)
 |.nil=>K (.sl false [])
 |.row key t z off len=>match e8 M key with
  |some (s,.rw z' es)=>match t with
   |0=>bif za z z' then bif OZ s b9 then A5 es off len λes=>K (.sl q es)else False else False
   |_+1=>False
  |some (_,.mx rows)=>match t with
   |0=>False
   |i+1=>match b9 with
    |[]=>E5 rows i λz' es=>bif za z z' then A5 es off len λes=>K (.sl q es)else False
    |b::r=>bif WH (b::r)then E5 rows i λz' es=>bif za z z' then A5 es off len λes=>K (.sl q es)else False else False
  |_=>False
 |_=>False
noncomputable def jN(q:Bool)(M:Mem)(b9:u_)(l:w_):(w_->Prop)->Prop :=
 List.rec (motive:=λ_=>(w_->Prop)->Prop) (λK=>K []) (λv _ ih K=>W1 q M b9 v λv'=>ih λr'=>K (v'::r')) l
noncomputable def rU(q:Bool)(M:Mem)(b9:u_)(l:v_):(v_->Prop)->Prop :=
 List.rec (motive:=λ_=>(v_->Prop)->Prop) (λK=>K []) (λv _ ih K=>jN q M b9 v λv'=>ih λr'=>K (v'::r')) l
noncomputable def cE(q:Bool)(M:Mem)(b9:u_)(v:AV)(K:AV->Prop):Prop:=match v with
 |.row key 0 z off len=>match e8 M key with
  |some (s,.bs z' es)=>bif za z z' then bif OZ s b9 then bif za off 0 then AW (len=es.length) (rU q M b9 es λes=>K (.sl q es))else False else False else False
  |some (_,.mx rows)=>match b9 with
   |[]=>bif za z 1 then HO q rows off len λes=>K (.sl q es)else False
   |_::_=>False
  |_=>W1 q M b9 (.row key 0 z off len) K
 |v=>W1 q M b9 v K
noncomputable def rV(q:Bool)(M:Mem)(b9:u_)(l:w_):(w_->Prop)->Prop :=
 List.rec (motive:=λ_=>(w_->Prop)->Prop) (λK=>K []) (λv _ ih K=>cE q M b9 v λv'=>ih λr'=>K (v'::r')) l
noncomputable def RG(q:Bool)(M:Mem)(b9:u_)(v:AV)(K:AV->Prop):Prop:=match v with
 |.agg cs=>rV q M b9 cs λcs=>K (.agg cs)
 |v=>cE q M b9 v K
noncomputable def cF(tm:Tm)(M:Mem)(b9:u_)(l:List AL):(w_->Prop)->Prop :=
 List.rec (motive:=λ_=>(w_->Prop)->Prop) (λK=>K []) (λx _ ih K=>RG true M b9 (ex tm x) λv=>ih λvs=>K (v::vs)) l
noncomputable def jO(M:Mem)(b9:u_)(v:AV)(K:AV->Prop):Prop:=match v with
 |.nil=>K .nil
 |v=>RG true M b9 v K
noncomputable def rW(tm:Tm)(M:Mem)(b9:u_)(l:List AL):(w_->Prop)->Prop :=
 List.rec (motive:=λ_=>(w_->Prop)->Prop) (λK=>K []) (λx _ ih K=>jO M b9 (ex tm x) λv=>ih λvs=>K (v::vs)) l
noncomputable def V7(tm:Tm)(l:List AL):(w_->Prop)->Prop :=
 List.rec (motive:=λ_=>(w_->Prop)->Prop) (λK=>K []) (λx _ ih K=>fV (ex tm x) λv=>ih λvs=>K (v::vs)) l
def iL(tm:Tm)(o:Option AL)(K:Option Int->Prop):Prop:=match o with
 |none=>K none
 |some x=>match ex tm x with
  |.int _ n=>K (some n)
  |_=>False
def pB(es:v_)(K:Nat->Prop):Prop:=match es with
 |[]=>K 0
 |[_]=>K 1
 |[_,_]=>K 2
 |[_,_,_]=>K 3
 |[_,_,_,_]=>K 4
 |es=>K es.length
noncomputable def dV(tm:Tm)(z:Nat)(l:List AL):(v_->Prop)->Prop :=
 List.rec (motive:=λ_=>(v_->Prop)->Prop) (λK=>K []) (λx _ ih K=>fC (ex tm x) λcs=>bif za cs.length z then ih λes=>K (cs::es)else False) l
noncomputable def nN(tm:Tm)(ps:List (Nat×Nat×AL)):w_->(w_->Prop)->Prop :=
 List.rec (motive:=λ_=>w_->(w_->Prop)->Prop) (λcells K=>K cells) (λp _ ih cells K=>fC (ex tm p.2.2) λvs=>bif za vs.length p.2.1 then bif Mb (p.1+p.2.1) cells.length then fL (splice cells p.1 vs) λcells=>ih cells K else False else False) ps
def R4(tm:Tm):List AL->w_
 |[]=>[]
 |x::r=>ex tm x::R4 tm r
def VH(tb:u_)(n:Int)(K:Nat->Prop):Prop:=0<=n/\∃v,tb[n.toNat]?=some v/\K v
noncomputable def pZ(tm:Tm)(l:List AL):(w_->Prop)->Prop :=
 List.rec (motive:=λ_=>(w_->Prop)->Prop) (λK=>K []) (λx _ ih K=>fF (ex tm x) λv=>ih λcs=>K (v::cs)) l
def qE:AV->Bool
 |.agg _=>false |.fn _ _ _ _=>false |.j4 _=>false |.any=>false
 |_=>true
def bL:w_->Bool
 |[]=>true
 |v::r=>bif qE v then bL r else false
def VI(M:Mem)(v:AV):Option (Nat×Option (Nat×Nat×Nat)):=match v with
 |.row ky 0 1 0 1=>match e8 M ky with
  |some (_,.bs 1 [[.row k2 0 z 0 n]])=>some (ky,some (k2,z,n))
  |some (_,.rw 1 [[.nil]])=>some (ky,none)
  |_=>none
 |_=>none
def sH(tm:Tm)(M:Mem)(K:AV->Mem->Prop)(n:Nat)(x v:AL):Prop:=match ex tm x with
 |.ptr key t i j=>fC (ex tm v) λvs=>bif za vs.length n then(match e8 M key with
  |some (s,c)=>match t with
   |0=>match c with
    |.bx cs=>bif za i 0 then bif Mb (j+vs.length) cs.length then fL (splice cs j vs) λfu=>K (.j4 []) ((key,s,.bx fu)::M)else False else False
    |.rw z es=>bif EM vs then BG es i j vs λes'=>K (.j4 []) ((key,s,.rw z es')::M)else False
    |.bs _ _=>False
    |.mx rows=>match vs with
     |[.row cn 0 z 0 m]=>bif za key cn then False else bif OH key tm then False else bif MD key M then False else bif za j 0 then(match e8 M cn with
      |some (_,.rw z' es)=>bif za z z' then fM (u9 cn M) λM'=>AW (m=es.length) (MB rows i z es λrows'=>K (.j4 []) ((key,s,.mx rows')::M'))else False
      |_=>False)else False
     |_=>False
    |.hx i0 _ rows=>match vs with
     |[.row cn 0 z 0 m]=>bif za key cn then False else bif OH key tm then False else bif MD key M then False else bif za j 0 then(match e8 M cn with
      |some (_,.rw z' es)=>bif za z z' then fM (u9 cn M) λM'=>AW (i=i0/\m=es.length) (MB rows i z es λrows'=>K (.j4 []) ((key,s,.mx rows')::M'))else False
      |_=>False)else False
     |_=>False
    |.vw _ _=>False
   |i'+1=>match c with
    |.mx rows=>bif EM vs then E5 rows i' λz es=>BG es i j vs λes'=>kP rows i' z es es' λrows'=>K (.j4 []) ((key,s,.mx rows')::M)else False
    |_=>False
  |none=>False)else False
 |_=>False
def CG(r:AV)(K:AV->Prop):Prop:=(KI r\/U3 r)/\K (NV r)
def VB(es:v_)(b:ByteArray)(K:Int->Bool->Prop):Prop:=(b.size<=9223372036854775807/\es.length<=9223372036854775807)/\K ((G1 es b).getD 0) (G1 es b).isSome
def VC(es:v_)(b:ByteArray)(n:Int)(K:v_->Prop):Prop:=(b.size<=9223372036854775807/\es.length<9223372036854775807/\-9223372036854775808<=n/\n<=9223372036854775807)/\K (SY es b n)
def N9(ys:v_)(z bytes:Nat)(K:v_->Prop):Prop:=(∀e∈ys,e.length=z/\∀c∈e,Q9 c=true)/\ys.length*bytes<=ET/\ys.length<=9223372036854775807/\K ys
def ZX(L:Lib)(f:Nat)(es:v_)(len:Nat)(K:v_->Prop):Prop:=len=es.length/\len<4611686018427387904/\∃es',KN L.cmp f es es'/\K es'
noncomputable def XE(L:Lib)(tm:Tm)(M:Mem)(b9:u_)(K:AV->Mem->Prop):DU->Prop
 |.o9 x=>fV (ex tm x) λv=>K v M
 |.z8 s z=>bif E2 s then HG s tm M λk=>K (.row k 0 z 0 0) ((k,s,.rw z [])::M)else False
 |.pick c a b=>match ex tm c with
  |.bool true=>fV (ex tm a) λv=>K v M
  |.bool false=>fV (ex tm b) λv=>K v M
  |_=>False
 |.bin op x y=>match ex tm x,ex tm y with
  |.int k a,.int k' b=>lB op k a k' b λv=>K v M
  |_,_=>False
 |.beq ne x y=>match ex tm x,ex tm y with
  |.bool a,.bool b=>fB (bif ne then !(a == b)else a == b) λc=>K (.bool c) M
  |_,_=>False
 |.un op x=>match ex tm x with
  |.int k n=>EC op k n λv=>K v M
  |.bool b=>match op with
   |.not=>fB (!b) λc=>K (.bool c) M
   |_=>False
  |_=>False
 |.conv k x=>match ex tm x with
  |.int _ n=>A0 k n λv=>K (.int k v) M
  |_=>False
 |.box s x=>fC (ex tm x) λcs=>HG s tm M λk=>K (.ptr k 0 0 0) ((k,s,.bx cs)::M)
 |.alloc s zero=>bif EM zero then(HG s tm M λk=>K (.ptr k 0 0 0) ((k,s,.bx zero)::M))else False
 |.build zero parts=>bif EM zero then nN tm parts zero λcs=>K (.agg cs) M else False
 |.b8 s z parts=>bif E2 s then dV tm z parts λes=>pB es λn=>HG s tm M λk=>bif VU es then K (.row k 0 z 0 n) ((k,s,.rw z es)::M)else K (.row k 0 z 0 n) ((k,s,.bs z es)::M)else False
 |.lit z parts=>dV tm z parts λes=>bif VU es&&es.all (λe=>e.all YK)then K (.sl false es) M else False
 |.l8 x off=>match ex tm x with
  |.ptr key t i j=>K (.ptr key t i (j+off)) M
  |.x9 cs=>fL (cs.drop off) λcs=>K (.x9 cs) M
  |_=>False
 |.nj x off n agg=>match ex tm x with
  |.agg cs=>match part cs off n with
   |some ds=>fL ds λds=>rk agg ds λv=>K v M
   |none=>False
  |_=>False
 |.q8 arr z x i=>match ex tm i with
  |.int _ n=>match arr,ex tm x with
   |some len,.ptr key t i' j=>AW (0<=n/\n<(len:Int)) (K (.ptr key t i' (j+n.toNat*z)) M)
   |some len,.x9 cs=>AW (0<=n/\n<(len:Int)) (fL (cs.drop (n.toNat*z)) λcs=>K (.x9 cs) M)
   |none,.row key t z' off len=>bif za z' z then AW (0<=n/\n<(len:Int)) (K (.ptr key t (off+n.toNat) 0) M)else False
   |none,.sl _ es=>AX es n z λcs=>K (.x9 cs) M
   |_,_=>False
  |_=>False
 |.ld agg n x=>match ex tm x with
  |.ptr key t i j=>match e8 M key with
   |some (s,c)=>match t with
    |0=>bif OZ s b9 then(match c with
     |.bx cs=>bif za i 0 then(match part cs j n with
      |some ds=>fL ds λds=>rk agg ds λv=>K v M
      |none=>False)else False
     |.rw _ es=>BD es i j n λds=>fL ds λds=>bif EM ds then rk agg ds λv=>K v M else False
     |.bs _ es=>(match es[i]? with
      |some cs=>(match part cs j n with
       |some ds=>fL ds λds=>rk agg ds λv=>K v M
       |none=>False)
      |none=>False)
     |.mx rows=>bif za j 0 then bif za n 1 then HF rows i λr=>match r with
      |some (z,es)=>rk agg [.row key (i+1) z 0 es.length] λv=>K v M
      |none=>rk agg [.nil] λv=>K v M else False else False
     |.hx _ _ _=>False
     |.vw _ _=>False)else False
    |i'+1=>match c,b9 with
     |.mx rows,[]=>E5 rows i' λ_ es=>BD es i j n λds=>fL ds λds=>bif EM ds then rk agg ds λv=>K v M else False
     |.mx rows,b::r=>bif WH (b::r)then E5 rows i' λ_ es=>BD es i j n λds=>fL ds λds=>bif EM ds then rk agg ds λv=>K v M else False else False
     |_,_=>False
   |none=>False
  |.x9 cs=>match part cs 0 n with
   |some ds=>fL ds λds=>bif EM ds then rk agg ds λv=>K v M else False
   |none=>False
  |_=>False
 |.st n x v=>sH tm M K n x v
 |.po s n x v=>match ex tm x with
  |.ptr key 0 _ _=>(match e8 M key with
   |some (s',_)=>bif za s' s then sH tm M K n x v else False
   |none=>False)
  |_=>False
 |.o5 f xs=>V7 tm xs λvs=>bif vs.all dq then AB L f (vs.map wz) λr=>CG r λr=>K r M else False
 |.mk s z bytes zero l c=>match ex tm l,ex tm c with
  |.int _ a,.int _ b=>bif za zero.length z then bif EM zero then match zero with
   |[.nil]=>bif E2 s then U9 a b bytes λrows n=>HG s tm M λk=>K (.row k 0 z 0 n) ((k,s,.mx rows)::M)else False
   |zero=>bif E2 s then(CM a b bytes zero λes n=>HG s tm M λk=>K (.row k 0 z 0 n) ((k,s,.rw z es)::M))else False else False else False
  |_,_=>False
 |.ik z x lo hi=>iL tm lo λlo=>iL tm hi λhi=>match ex tm x with
  |.sl l es=>GE z es lo hi λes=>K (.sl l es) M
  |.row key t z' off len=>bif za z' z then C9 lo hi len λa h=>K (.row key t z (off+a) (h-a)) M else False
  |.nil=>(match lo,hi with
   |none,none=>K .nil M
   |some a,none=>AW (a=0) (K .nil M)
   |none,some h=>AW (h=0) (K .nil M)
   |some a,some h=>AW (a=0/\h=0) (K .nil M))
  |_=>False
 |.ext x i=>match ex tm x with
  |.j4 vs=>f2 (yz vs i) λv=>K v M
  |_=>False
 |.len x=>match ex tm x with
  |.sl _ es=>AM es λn=>K (.int .i64 (n:Int)) M
  |.nil=>K (.int .i64 0) M
  |.row _ _ _ _ n=>K (.int .i64 (n:Int)) M
  |_=>False
 |.mm mx xs=>match R4 tm xs with
  |.int k a::r=>WD mx k (λv=>K v M) a r
  |_=>False
 |.app s z bytes x y=>bif Mb 800000 s then False else(
  match VI M (ex tm y)with
  |some (ky,some (k2,z2,n2))=>match ex tm x with
   |.row key 0 z' off len=>bif za off 0 then bif za z' 1 then bif za z 1 then bif za key k2 then False else bif za key ky then False else bif za k2 ky then False else(match e8 M k2 with
    |some (_,.rw z3 es)=>bif za z2 z3 then(match e8 M key with
     |some (s',.mx rows)=>fM (u9 key (u9 k2 (u9 ky M))) λM'=>AW (n2=es.length) (JY rows len (some (z2,es)) bytes λrows' n=>HG s tm M λk=>K (.row k 0 z 0 n) ((k,s',.mx rows')::M'))
     |_=>False)else False
    |_=>False)else False else False else False
   |.nil=>bif E2 s then bif za z 1 then(match e8 M k2 with
    |some (_,.rw z3 es)=>bif za z2 z3 then fM (u9 k2 M) λM'=>AW (n2=es.length/\bytes<=140737488355328) (HG s tm M λk=>K (.row k 0 z 0 1) ((k,s,.mx [some (z2,es)])::M'))else False
    |_=>False)else False else False
   |_=>False
  |some (ky,none)=>match ex tm x with
   |.row key 0 z' off len=>bif za off 0 then bif za z' 1 then bif za z 1 then bif za key ky then False else(match e8 M key with
     |some (s',.mx rows)=>fM (u9 key M) λM'=>JY rows len none bytes λrows' n=>HG s tm M λk=>K (.row k 0 z 0 n) ((k,s',.mx rows')::M')
     |_=>False)else False else False else False
   |.nil=>bif E2 s then bif za z 1 then AW (bytes<=140737488355328) (HG s tm M λk=>K (.row k 0 z 0 1) ((k,s,.mx [none])::M))else False else False
   |_=>False
  |none=>aF M (ex tm y) λys=>match ex tm x with
   |.row key 0 z' off len=>bif za off 0 then bif za z' z then(match e8 M key with
    |some (s',.rw db es)=>bif za db z then fM (u9 key M) λM'=>(BS es len ys z bytes λes' n=>HG s tm M λk=>K (.row k 0 z 0 n) ((k,s',.rw z es')::M'))else False
    |_=>False)else False else False
   |.row key (i+1) z' off len=>bif za off 0 then bif za z' z then(match e8 M key with
    |some (sk,.mx rows)=>fM (u9 key M) λM'=>E5 rows i λdb es=>bif za db z then(BS es len ys z bytes λes' n=>∀s' v,HG s tm M λk=>K (.row k 0 z 0 n) ((k,s',.rw z es')::(key,sk,.hx i v (rows.set i none))::M'))else False
    |_=>False)else False else False
   |.nil=>bif E2 s then D7 ys z bytes λes n=>HG s tm M λk=>K (.row k 0 z 0 n) ((k,s,.rw z es)::M)else False
   |_=>False)
 |.di s z bytes x y=>match ex tm y with
  |.sl _ ys=>match ex tm x with
   |.row key 0 z' off len=>bif za off 0 then bif za z' z then(match e8 M key with
    |some (s',.rw db es)=>bif za s' s then bif za db z then fM (u9 key M) λM'=>(BS es len ys z bytes λes' n=>HG s tm M λk=>K (.row k 0 z 0 n) ((k,s',.rw z es')::M'))else False else False
    |_=>False)else False else False
   |.nil=>bif E2 s then D7 ys z bytes λes n=>HG s tm M λk=>K (.row k 0 z 0 n) ((k,s,.rw z es)::M)else False
   |_=>False
  |_=>False
 |.call f xs=>cF tm M b9 xs λvs=>AB L f vs λr=>K r M
 |.j5 f xs=>match b9 with
  |[s]=>V7 tm xs λvs=>AeS L s f vs tm M K
  |_=>V7 tm xs λvs=>A8 L f vs tm M K
 |.x5 s f xs=>bif E2 s then rW tm M b9 xs λvs=>QD L f vs λz es n=>HG s tm M λk=>K (.row k 0 z 0 n) ((k,s,.rw z es)::M)else False
 |.ta ne x=>match ex tm x with
  |.nil=>fB (xor true ne) λc=>K (.bool c) M
  |.x7 (.bool b)=>fB (xor b ne) λc=>K (.bool c) M
  |.sl _ es=>AW (es≠[]) (fB (xor false ne) λc=>K (.bool c) M)
  |.row _ _ _ _ n=>AW (0<n) (fB (xor false ne) λc=>K (.bool c) M)
  |_=>False
 |.bad=>False
 |.nf z bytes x y=>aF M (ex tm y) λys=>match ex tm x with
  |.row key 0 z' off len=>bif za off 0 then bif za len 0 then bif za z' z then(match e8 M key with
   |some (_,.rw db _)=>bif za db z then fM (u9 key M) λM'=>N9 ys z bytes λys=>K (.sl false ys) M' else False
   |_=>False)else False else False else False
  |_=>False
 |.fe fs f z x c=>match ex tm c with
  |.fn true f' g []=>AW (f'=f/\g=L.num f/\L.ff fs=some z) (match ex tm x with
   |.nil=>K (.j4 []) M
   |.row key 0 z' off len=>bif za off 0 then bif za z' z then(match e8 M key with
    |some (s,.rw db es)=>bif za db z then ZX L f es len λes'=>K (.j4 []) ((key,s,.rw z es')::M)else False
    |_=>False)else False else False
   |_=>False)
  |_=>False
 |.pj s=>bif E2 s then HG s tm M λk=>K (.mp k 0) ((k,s,.rw 2 [])::M)else False
 |.ql x kk=>match ex tm x,ex tm kk with
  |.mp key 0,.x7 (.string b)=>(match e8 M key with
   |some (s,.rw _ es)=>bif OZ s b9 then VB es b λn ok=>K (.j4 [.int .i64 n,.bool ok]) M else False
   |_=>False)
  |_,_=>False
 |.pn x kk v=>match ex tm x,ex tm kk,ex tm v with
  |.mp key 0,.x7 (.string b),.int .i64 n=>(match e8 M key with
   |some (s,.rw z es)=>VC es b n λes'=>K .any ((key,s,.rw z es')::M)
   |_=>False)
  |_,_,_=>False
 |.kx x=>match ex tm x with
  |.ptr key t i j=>K (.ptr key t i j) M
  |_=>False
 |.cz s f xs=>V7 tm xs λvs=>match vs with
  |.ptr key 0 0 0::rest=>bif gN rest then AeT L s f key rest M K else False
  |_=>False
 |.ix tb x=>match ex tm x with
  |.int _ n=>VH tb n λv=>K (.int .u8 v) M
  |_=>False
 |.pg p f xs=>pZ tm xs λcs=>K (.fn (p&&cs.isEmpty) f (L.num f) cs) M
 |.u6 x xs=>match ex tm x with
  |.fn true f g []=>AW (g=L.num f) (cF tm M [] xs λvs=>AB L f vs λr=>K r M)
  |.fn true f g (c::cs)=>AW (g=L.num f) (RG true M [] (.agg (c::cs)) λv=>cF tm M [] xs λvs=>AB L f (v::vs) λr=>K r M)
  |.fn false f g cs=>bif bL cs then AW (g=L.num f) (V7 tm xs λvs=>fL (vs++cs) λvs=>A8 L f vs tm M K)else False
  |_=>False
def Ec(key:Nat):Tm->Tm
 |[]=>[]
 |(j,v)::r=>bif RU key v then(j,.any)::Ec key r else(j,v)::Ec key r
def xk(v:AV)(tm:Tm)(K:Tm->Prop):Prop:=match v with
 |.row key (_+1) _ _ _=>fT (Ec key tm) K
 |_=>K tm
noncomputable def XI(L:Lib)(o:AI)(ih:(Tm->Mem->Prop)->Tm->Mem->Prop)(K:Tm->Mem->Prop)(tm:Tm)(M:Mem):Prop:=match o with
 |⟨some d,.app s z b x y,none,b9⟩=>XE L tm M b9 (λv M=>xk (ex tm x) tm λtm=>ih K ((d,v)::tm) M) (.app s z b x y)
 |⟨some d,op,none,b9⟩=>XE L tm M b9 (λv M=>ih K ((d,v)::tm) M) op
 |⟨none,op,none,b9⟩=>XE L tm M b9 (λ_ M=>ih K tm M) op
 |⟨dst,op,some (g,w),b9⟩=>match tg tm g with
  |.bool b=>fB (b == w) λc=>match c,dst with
   |true,some d=>XE L tm M b9 (λv M=>ih K ((d,v)::tm) M) op
   |true,none=>XE L tm M b9 (λ_ M=>ih K tm M) op
   |false,some d=>ih K ((d,.j4 [])::tm) M
   |false,none=>ih K tm M
  |.j4 []=>match dst with
   |some d=>ih K ((d,.j4 [])::tm) M
   |none=>ih K tm M
  |_=>False
noncomputable def XO(L:Lib)(l:List AI):(Tm->Mem->Prop)->Tm->Mem->Prop :=
 List.rec (motive:=λ_=>(Tm->Mem->Prop)->Tm->Mem->Prop) (λK tm M=>K tm M) (λo _ ih K tm M=>XI L o ih K tm M) l
noncomputable def XS(L:Lib)(Q:Tm->Mem->Prop)(ih:List It->Tm->Mem->Prop)(k:List It)(tm:Tm)(M:Mem):Prop:=match k with
 |[]=>Q tm M
 |it::k=>match it with
  |.c9 _=>ih k tm M
  |.ot ts ss=>fN (mask 0 ts) λm=>fT (wh m tm) λtm=>match ss with
   |[]=>ih k tm M
   |_::_=>False
  |.lp c=>AA L (.lp c::k) tm M Q
  |.code c=>match c with
   |.skip=>ih k tm M
   |.ops l _=>XO L l (λtm M=>ih k tm M) tm M
   |.dr c ts ss=>ih (.code c :: .ot ts ss::k) tm M
   |.scope c=>ih (.code c::k) tm M
   |.seq a b=>ih (.code a :: .code b::k) tm M
   |.cond x a b=>match ex tm x with
    |.bool b'=>fB b' λc=>match c with
     |true=>ih (.code a::k) tm M
     |false=>ih (.code b::k) tm M
    |_=>False
   |.block id c=>ih (.code c :: .c9 id::k) tm M
   |.loop c=>AA L (.lp c::k) tm M Q
   |.exit id=>match GG id k with
    |some k'=>ih k' tm M
    |none=>False
   |.ret=>Q tm M
noncomputable def XK(L:Lib)(Q:Tm->Mem->Prop)(n:Nat):List It->Tm->Mem->Prop :=
 Nat.rec (motive:=λ_=>List It->Tm->Mem->Prop) (λk tm M=>AA L k tm M Q) (λ_ ih k tm M=>XS L Q ih k tm M) n
def bX(tm:Tm)(M:Mem)(r:LJ)(K:AV->Prop):Prop:=match r with
 |.tmp t=>f2 (tg tm t) K
 |.cell t agg n=>match tg tm t with
  |.ptr key 0 i j=>match e8 M key with
   |some (_,.bx cs)=>bif za i 0 then(match part cs j n with
    |some ds=>fL ds λds=>rk agg ds K
    |none=>False)else False
   |_=>False
  |_=>False
noncomputable def iY(tm:Tm)(M:Mem)(l:List LJ):(w_->Prop)->Prop :=
 List.rec (motive:=λ_=>(w_->Prop)->Prop) (λK=>K []) (λx _ ih K=>bX tm M x λv=>ih λvs=>K (v::vs)) l
noncomputable def rT(q:Bool)(M:Mem)(l:w_):(w_->Prop)->Prop :=
 List.rec (motive:=λ_=>(w_->Prop)->Prop) (λK=>K []) (λx _ ih K=>RG q M [] x λv=>ih λvs=>K (v::vs)) l
def rsv(vs:w_)(K:AV->Prop):Prop:=match vs with
 |[v]=>K v
 |vs=>K (.j4 vs)
def AH(a r:AV):Prop:=a=r/\AY r
noncomputable def QK(fn:AFn)(r:AV)(tm:Tm)(M:Mem):Prop:=iY tm M fn.res λvs=>rT false M vs λvs=>rsv vs λv=>AH v r
end Go.Eng

namespace Go.Eng
theorem BL{a b:Nat}:za a b=true↔a=b:=⟨ic,λh=>by subst h;simp⟩
theorem FR{a b:Nat}:za a b=false↔a≠b:=by
 constructor
 ·exact Nat.ne_of_beq_eq_false
 ·intro h
  cases e:za a b
  ·rfl
  ·exact absurd (ic e) h
theorem L5(j:Nat):∀tm:Tm,tg tm j=j7 tm j
 |[]=>rfl
 |(i,v)::r=>by
  simp only[tg,cM,L5 j r];cases e:za j i
  ·rw[if_neg (FR.1 e)];rfl
  ·rw[if_pos (BL.1 e)];rfl
theorem I7:∀(l:w_)(K:w_->Prop),fL l K=K l
 |[],_=>rfl
 |v::r,K=>by rw[fL,I7 r]
theorem YB:∀(l:Tm)(K:Tm->Prop),fT l K=K l
 |[],_=>rfl
 |(i,v)::r,K=>by rw[fT,YB r]
theorem NS:∀(l:Mem)(K:Mem->Prop),fM l K=K l
 |[],_=>rfl
 |(k,s,c)::r,K=>by rw[fM,NS r]
theorem AjX(n:Nat)(K:Nat->Prop):fN n K=K n:=by cases n<;>rfl
theorem lC(m i:Nat):bit m i=m.testBit i:=by
 have h:Jd (yd m i) 1=(m >>> i)%2:=Mc (m >>> i);have ht:m.testBit i=decide ((m >>> i)%2=1):=by
  rw[Nat.testBit,Nat.and_comm,Mc];rcases sc (m >>> i)with e|e<;>simp[e]
 unfold bit;rw[h,ht];rcases sc (m >>> i)with e|e<;>rw[e]<;>rfl
theorem uV(m i j:Nat):bit (dd m (pc 1 i)) j=(bit m j||decide (j=i)):=by
 rw[lC,lC];show(m ||| (1 <<< i)).testBit j=_;rw[Nat.testBit_or,Nat.testBit_shiftLeft];congr 1;by_cases h:j=i
 ·subst h;simp
 ·by_cases h2:j≥i
  ·obtain⟨d,rfl⟩:∃d,j=i+d+1:=⟨j-i-1,O'⟩
   rw[show i+d+1-i=d+1 by omega,Nat.testBit_succ];simp[h]
  ·simp[h2,h]
theorem uU:∀(ts:u_)(m j:Nat),bit (mask m ts) j=(bit m j||ts.contains j)
 |[],m,j=>by simp[mask]
 |t::ts,m,j=>by
  rw[mask,uU ts,uV,List.contains_cons,Bool.or_assoc];congr 2
theorem lD(j:Nat):bit 0 j=false:=by rw[lC];simp
theorem cK(j:Nat):∀(tm:Tm)(m:Nat),tg (wh m tm) j=bif bit m j then .any else tg tm j
 |[],m=>by cases bit m j<;>rfl
 |(i,v)::r,m=>by
  simp only[wh];cases hb:bit m i
  ·simp only[cond_false,tg,cK j r,uV]
   cases hj:za j i
   ·have:decide (j=i)=false:=by simpa using FR.1 hj
    simp only[cond_false,this,Bool.or_false]
   ·obtain rfl:=BL.1 hj
    simp only[cond_true,hb,cond_false]
  ·simp only[cond_true,tg,cK j r]
   cases hj:za j i
   ·rfl
   ·obtain rfl:=BL.1 hj
    simp only[hb,cond_true]
theorem fZ{v:AV}{K:AV->Prop}(h:fV v K):v ≠ .any/\K v:=by
 cases v<;>simp only[fV,I7]at h<;>first|exact h.elim|exact⟨G',h⟩
theorem fY{v:AV}{K:w_->Prop}(h:fC v K):v ≠ .any/\∃cs,cellsOf v=some cs/\K cs:=by
 cases v<;>simp only[fC,fV,I7]at h<;>first|exact h.elim|exact⟨G',_,rfl,h⟩
theorem R5(b:Bool)(K:Bool->Prop):fB b K=K b:=by cases b<;>rfl
theorem Yk{k:Nat}{tm:Tm}{M:Mem}(h:used k tm M=false):IB k M=false/\JU k tm=false:=by
 unfold used at h;cases h1:IB k M<;>simp only[h1,cond_true,cond_false]at h
 ·exact⟨rfl,h⟩
 ·cases h
theorem Wv{tm:Tm}{M:Mem}{K:Nat->Prop}:∀{l:u_},iS tm M l K->∃k,IB k M=false/\JU k tm=false/\K k
 |[],h=>h.elim
 |k::r,h=>by
  simp only[iS]at h;cases h0:used k tm M<;>simp only[h0,cond_true,cond_false]at h
  ·exact⟨k,(Yk h0).1,(Yk h0).2,h⟩
  ·exact Wv h
theorem IY{s:Nat}{tm:Tm}{M:Mem}{K:Nat->Prop}(h:HG s tm M K):∃k,IB k M=false/\JU k tm=false/\K k:=Wv h
section
variable {σ:F5}
def C7(σ:F5)(k:Nat)(f:Nat->Nat×Nat):F5:=λj t=>if j=k then f t else σ j t
theorem CK{k j:Nat}(f:Nat->Nat×Nat)(h:j≠k):C7 σ k f j=σ j:=by funext t;simp[C7,h]
theorem BV(k:Nat)(f:Nat->Nat×Nat):C7 σ k f k=f:=by funext t;simp[C7]
theorem jW{k:Nat}{p:Nat->Nat×Nat}{v:AV}(h:LX k v=false):A7 (C7 σ k p) v=A7 σ v:=by
 cases v with
 |row j t z o n=>simp only[LX]at h;simp only[A7,CK p (FR.1 h)]
 |ptr j t a b=>simp only[LX]at h;simp only[A7,CK p (FR.1 h)]
 |mp j t=>simp only[LX]at h;simp only[A7,CK p (FR.1 h)]
 |_=>rfl
theorem Y8{k:Nat}{p:Nat->Nat×Nat}:∀{cs:w_},J9 k cs=false->cs.map (A7 (C7 σ k p))=cs.map (A7 σ)
 |[],_=>rfl
 |c::r,h=>by
  simp only[J9]at h;cases h1:LX k c<;>simp only[h1,cond_true,cond_false]at h
  ·rw[va,va,jW h1,Y8 h]
  ·cases h
theorem sD{k:Nat}{p:Nat->Nat×Nat}:∀{es:v_},UP k es=false->(es.map λcs=>cs.map (A7 (C7 σ k p)))=es.map λcs=>cs.map (A7 σ)
 |[],_=>rfl
 |c::r,h=>by
  simp only[UP]at h;cases h1:J9 k c<;>simp only[h1,cond_true,cond_false]at h
  ·rw[va,va,Y8 h1,sD h]
  ·cases h
theorem ZA{k:Nat}{p:Nat->Nat×Nat}{v:AV}(h:RD k v=false):BK (C7 σ k p) v=BK σ v:=by
 cases v with
 |agg cs=>simp only[RD]at h;simp only[BK,Y8 h]
 |fn p f g cs=>simp only[RD]at h;simp only[BK,Y8 h]
 |row a b c d e=>exact jW (v := .row a b c d e) h
 |ptr a b c d=>exact jW (v := .ptr a b c d) h
 |mp a b=>exact jW (v := .mp a b) h
 |_=>rfl
theorem Zf{k:Nat}{p:Nat->Nat×Nat}:∀{cs:w_},YZ k cs=false->cs.map (BK (C7 σ k p))=cs.map (BK σ)
 |[],_=>rfl
 |c::r,h=>by
  simp only[YZ]at h;cases h1:RD k c<;>simp only[h1,cond_true,cond_false]at h
  ·rw[va,va,ZA h1,Zf h]
  ·cases h
theorem jX{k:Nat}{p:Nat->Nat×Nat}{v:AV}(h:N3 k v=false):BB (C7 σ k p) v=BB σ v:=by
 cases v with
 |j4 cs=>simp only[N3]at h;simp only[BB,Zf h]
 |agg cs=>exact ZA (v := .agg cs) h
 |fn p f g cs=>exact ZA (v := .fn p f g cs) h
 |row a b c d e=>exact ZA (v := .row a b c d e) h
 |ptr a b c d=>exact ZA (v := .ptr a b c d) h
 |mp a b=>exact ZA (v := .mp a b) h
 |_=>rfl
theorem Y0{k:Nat}:∀{tm:Tm},JU k tm=false->∀j,N3 k (tg tm j)=false
 |[],_,_=>rfl
 |(i,v)::r,h,j=>by
  simp only[JU]at h;cases h1:N3 k v<;>simp only[h1,cond_true,cond_false]at h
  ·simp only[tg]
   cases za j i
   ·exact Y0 h j
   ·exact h1
  ·cases h
theorem WP{k:Nat}:∀{M:Mem},IB k M=false->∀j s c,e8 M j=some (s,c)->j≠k/\JT k c=false
 |[],_,_,_,_,e=>by cases e
 |(i,s0,c0)::r,h,j,s,c,e=>by
  simp only[IB]at h;cases h0:za k i<;>simp only[h0,cond_true,cond_false]at h
  ·cases h1:JT k c0<;>simp only[h1,cond_true,cond_false]at h
   ·simp only[e8]at e
    cases h2:za j i<;>simp only[h2,cond_true,cond_false]at e
    ·exact WP h j s c e
    ·simp only[ya,ga]at e
     obtain⟨_,rfl⟩:=e;exact⟨λe=>FR.1 h0 (e.symm.trans (BL.1 h2)),h1⟩
   ·cases h
  ·cases h
theorem SZ{σ σ':F5}{k:Nat}:∀(rows:List (p_))(i:Nat),(∀j,i<=j->σ k (j+1)=σ' k (j+1))->CE σ k i rows=CE σ' k i rows
 |[],i,h=>rfl
 |none::r,i,h=>by rw[CE,CE,SZ r (i+1) λj hj=>h j O']
 |some (z,es)::r,i,h=>by rw[CE,CE,SZ r (i+1) λj hj=>h j O',h i O']
theorem IP{k:Nat}:∀(rows:List (p_))(i j:Nat),(CE σ k i rows)[j]?=(rows[j]?).map λr=>match r with|none=>[.nil]|some (z,es)=>[.row (σ k (i+j+1)).1 (σ k (i+j+1)).2 z 0 es.length]
 |[],i,j=>by simp[CE]
 |none::r,i,0=>by simp[CE]
 |none::r,i,j+1=>by simp only[CE,oc,IP r (i+1) j];rw[show i+1+j=i+(j+1)by omega]
 |some (z,es)::r,i,0=>by simp[CE]
 |some (z,es)::r,i,j+1=>by simp only[CE,oc,IP r (i+1) j];rw[show i+1+j=i+(j+1)by omega]
theorem G2{k:Nat}:∀(rows:List (p_))(i:Nat),(CE σ k i rows).length=rows.length
 |[],i=>rfl
 |none::r,i=>by simp[CE,G2 r]
 |some (z,es)::r,i=>by simp[CE,G2 r]
theorem dU{k j:Nat}{f:Nat->Nat×Nat}{c:BA}(h:JT k c=false)(hj:j≠k):c.c9 (C7 σ k f) j=c.c9 σ j:=by
 cases c with
 |bx cs=>simp only[JT]at h;simp only[BA.c9,Y8 h]
 |rw z es=>rfl
 |bs z es=>simp only[JT]at h;simp only[BA.c9,sD h]
 |mx rows=>simp only[BA.c9];rw[SZ rows 0 λi _=>by rw[CK f hj]]
 |hx a v rows=>simp only[BA.c9];rw[SZ rows 0 λi _=>by rw[CK f hj]]
 |vw w rows=>simp only[BA.c9];rw[SZ rows 0 λi _=>by rw[CK f hj]]
theorem Ahc{v:AV}(h:ug v=true):A7 σ v=v:=by cases v<;>first|rfl|cases h
theorem KQ:∀{cs:w_},EM cs=true->cs.map (A7 σ)=cs
 |[],_=>rfl
 |c::r,h=>by
  simp only[EM]at h;cases h1:ug c<;>simp only[h1,cond_true,cond_false]at h
  ·cases h
  ·rw[va,Ahc h1,KQ h]
theorem Ahb{k:Nat}{v:AV}(h:ug v=true):LX k v=false:=by cases v<;>first|rfl|cases h
theorem lT{k:Nat}:∀{cs:w_},EM cs=true->J9 k cs=false
 |[],_=>rfl
 |c::r,h=>by
  simp only[EM]at h;cases h1:ug c<;>simp only[h1,cond_true,cond_false]at h
  ·cases h
  ·simp only[J9,Ahb h1,lT h,cond_false]
theorem Ag9(v:AV):cv v = .any\/(cv v=v/\BB σ v=v):=by
 cases v with
 |agg cs=>
  simp only[cv];cases h:EM cs
  ·exact Or.inl rfl
  ·exact Or.inr ⟨rfl,by simp only[BB,BK,KQ h]⟩
 |j4 vs=>cases vs with
  |nil=>exact Or.inr ⟨rfl,rfl⟩
  |cons=>exact Or.inl rfl
 |fn p f g cs=>cases cs with
  |nil=>exact Or.inr ⟨rfl,rfl⟩
  |cons=>exact Or.inl rfl
 |_=>first|exact Or.inl rfl|exact Or.inr ⟨rfl,rfl⟩
theorem Ag6{k:Nat}(v:AV):N3 k (cv v)=false:=by
 cases v with
 |agg cs=>
  simp only[cv];cases h:EM cs
  ·rfl
  ·exact lT h
 |j4 vs=>cases vs<;>rfl
 |fn p f g cs=>cases cs<;>rfl
 |_=>rfl
variable {tm:Tm} {M:Mem} {st:St}
theorem RX.ev(h:RX σ tm M st){x:AL}{v:AV}(e:ex tm x=v)(hv:v ≠ .any):st.ev x=BB σ v:=by
 cases x with
 |t n=>
  simp only[ex]at e;rcases h.tm n with h|h
  ·exact absurd (e.symm.trans h) hv
  ·rw[e]at h;exact h
 |c u=>
  simp only[ex]at e;rcases Ag9 (σ:=σ) u with h|⟨h,h'⟩
  ·exact absurd (e.symm.trans h) hv
  ·rw[<-e,h,h'];rfl
theorem Rf{k:Nat}(h:JU k tm=false)(x:AL):N3 k (ex tm x)=false:=by
 cases x with
 |t n=>exact Y0 h n
 |c u=>exact Ag6 u
theorem Xd{k:Nat}{v:AV}{cs:w_}(h:N3 k v=false)(e:cellsOf v=some cs):J9 k cs=false:=by
 cases v<;>simp only[cellsOf,ya,reduceCtorEq]at e<;>subst e<;>first|exact h|rfl|(simp only[N3,RD]at h;simp only[J9,h,cond_false])
theorem RT{v:AV}{cs:w_}(e:cellsOf v=some cs):cellsOf (BB σ v)=some (cs.map (A7 σ)):=by
 cases v<;>simp only[cellsOf,ya,reduceCtorEq]at e<;>subst e<;>rfl
def BA.flat:BA->Prop
 |.mx rows=>∀(i:Nat)(x:Nat×v_),rows[i]?=some (some x)->False
 |.hx _ _ _=>False
 |.vw _ _=>False
 |_=>True
theorem EA{M:Mem}{k s:Nat}{c:BA}(h:e8 M k=some (s,c)):c8 M k 0=some c:=by simp[c8,h]
theorem JB{M:Mem}{k t:Nat}{c:BA}(h:c8 M k t=some c):∃s c0,e8 M k=some (s,c0)/\(t=0->c=c0)/\(∀i,t=i+1->∃rows z es,((c0 = .mx rows\/∃a v,c0 = .hx a v rows)\/∃w,c0 = .vw w rows)/\rows[i]?=some (some (z,es))/\c = .rw z es):=by
 unfold c8 at h;cases hm:e8 M k with
 |none=>simp[hm]at h
 |some x=>
  obtain⟨s,c0⟩:=x;simp only[hm]at h;refine⟨s,c0,rfl,?_,?_⟩
  ·rintro rfl;exact(ua h).symm
  ·rintro i rfl
   cases c0 with
   |mx rows=>
    simp only at h;cases hr:rows[i]? with
    |none=>simp[hr]at h
    |some r=>
     cases r with
     |none=>simp[hr]at h
     |some ze=>obtain⟨z,es⟩:=ze;simp only[hr,ya]at h;exact⟨rows,z,es,Or.inl (Or.inl rfl),hr,h.symm⟩
   |hx a v rows=>
    simp only at h;cases hr:rows[i]? with
    |none=>simp[hr]at h
    |some r=>
     cases r with
     |none=>simp[hr]at h
     |some ze=>obtain⟨z,es⟩:=ze;simp only[hr,ya]at h;exact⟨rows,z,es,Or.inl (Or.inr ⟨a,v,rfl⟩),hr,h.symm⟩
   |vw w rows=>
    simp only at h;cases hr:rows[i]? with
    |none=>simp[hr]at h
    |some r=>
     cases r with
     |none=>simp[hr]at h
     |some ze=>obtain⟨z,es⟩:=ze;simp only[hr,ya]at h;exact⟨rows,z,es,Or.inr ⟨w,rfl⟩,hr,h.symm⟩
   |_=>simp at h
theorem Q8{M:Mem}{k s:Nat}{c:BA}{j t:Nat}(h:j≠k):c8 ((k,s,c)::M) j t=c8 M j t:=by
 simp only[c8,e8,FR.2 h,cond_false]
theorem YP{M:Mem}{k s:Nat}{c:BA}:c8 ((k,s,c)::M) k 0=some c:=by simp[c8,e8]
theorem YQ{M:Mem}{k s:Nat}{c:BA}(hc:c.flat){t:Nat}{c':BA}(h:c8 ((k,s,c)::M) k t=some c'):t=0/\c'=c:=by
 cases t with
 |zero=>rw[YP]at h;exact⟨rfl,(ua h).symm⟩
 |succ i=>
  simp only[c8,e8,fb,cond_true]at h;cases c with
  |mx rows=>
   simp only at h;split at h
   ·rename_i z es hr
    exact(hc i (z,es) hr).elim
   ·cases h
  |hx a v rows=>exact hc.elim
  |vw w rows=>exact hc.elim
  |_=>simp at h
theorem AlX{σ σ':F5}{k k':Nat}{rows:List (p_)}(h:BA.flat (.mx rows)):CE σ k 0 rows=CE σ' k' 0 rows:=by
 apply Aa;intro j;rw[IP,IP];cases hr:rows[j]? with
 |none=>rfl
 |some r=>cases r with
  |none=>rfl
  |some x=>exact(h j x hr).elim
theorem RX.gy(h:RX σ tm M st){s q:Nat}(hm:IB s M=false)(ht:JU s tm=false)(c:BA)(hf:c.flat)(hc:JT s c=false)(hl:c.isRow=true->E2 q=true) :
  RX (C7 σ s λ_=>(q,st.own.j6 q)) tm ((s,q,c)::M) ⟨st.tm,st.own.put q ((st.own q).new (c.c9 σ s))⟩:=by
 have Ce:∀j t c',c8 M j t=some c'->((st.own.put q ((st.own q).new (c.c9 σ s))) (σ j t).1).c9 (σ j t).2=(st.own (σ j t).1).c9 (σ j t).2:=by
  intro j t c' e;by_cases hs:(σ j t).1=q
  ·have ho:=h.sat.old _ _ _ e
   rw[hs]at ho⊢;simp only[Own.k9,BZ.new];rw[if_neg O']
  ·rw[Own.iw _ _ _ _ hs]
 have Bn:∀s',(st.own s').j6<=((st.own.put q ((st.own q).new (c.c9 σ s))) s').j6:=by
  intro s';by_cases hs:s'=q
  ·subst hs;simp only[Own.k9,BZ.new];omega
  ·rw[Own.iw _ _ _ _ hs];exact oa _
 have o7:∀j t c',j≠s->c8 ((s,q,c)::M) j t=some c'->c8 M j t=some c':=λj t c' hj e=>by rwa [Q8 hj]at e
 have Ch:∀j t c',c8 M j t=some c'->JT s c'=false/\j≠s:=by
  intro j t c' e;obtain⟨s1,c0,g1,g2,g3⟩:=JB e;obtain⟨g4,g5⟩:=WP hm _ _ _ g1;refine⟨?_,g4⟩;cases t with
  |zero=>rw[g2 rfl];exact g5
  |succ i=>obtain⟨rows,z,es,_,_,rfl⟩:=g3 i rfl;rfl
 refine⟨λj=>?_,⟨?_,?_,?_,?_,?_⟩⟩
 ·rw[jX (Y0 ht j)];exact h.tm j
 ·intro j s' c' e
  simp only[e8]at e;cases hb:za j s<;>simp only[hb,cond_true,cond_false]at e
  ·rw[CK _ (FR.1 hb)];exact h.sat.site _ _ _ e
  ·simp only[ya,ga]at e
   obtain⟨rfl,rfl⟩:=e;rw[BL.1 hb,BV]
 ·intro j t c' e
  by_cases hj:j=s
  ·subst hj
   obtain⟨rfl,rfl⟩:=YQ hf e;have hb:c'.c9 (C7 σ j λ_=>(q,st.own.j6 q)) j=c'.c9 σ j:=by
    cases c' with
    |bx cs=>simp only[JT]at hc;simp only[BA.c9,Y8 hc]
    |rw z es=>rfl
    |bs z es=>simp only[JT]at hc;simp only[BA.c9,sD hc]
    |mx rows=>exact congrArg (C2.mk 1) (AlX hf)
    |hx a v rows=>exact hf.elim
    |vw w rows=>exact hf.elim
   rw[BV,hb];simp[Own.k9,BZ.new,Own.j6]
  ·have e':=o7 j t c' hj e
   rw[CK _ hj,dU (Ch j t c' e').1 hj];exact(Ce j t c' e').trans (h.sat.c9 _ _ _ e')
 ·intro j t c' e
  by_cases hj:j=s
  ·subst hj
   rw[BV];simp[Own.k9,BZ.new,Own.j6]
  ·have e':=o7 j t c' hj e
   rw[CK _ hj];exact Fa (h.sat.old _ _ _ e') (Bn _)
 ·have ng:∀j t c',c8 M j t=some c'->σ j t=(q,st.own.j6 q)->False:=by
   intro j t c' e hh;have h2:=h.sat.old _ _ _ e;rw[hh]at h2;exact absurd h2 (Db _)
  intro j t j' t' c1 c2 e1 e2 hj;by_cases h1:j=s<;>by_cases h2:j'=s
  ·subst h1;subst h2
   exact⟨rfl,(YQ hf e1).1.trans (YQ hf e2).1.symm⟩
  ·subst h1
   rw[BV,CK _ h2]at hj;exact(ng _ _ _ (o7 _ _ _ h2 e2) hj.symm).elim
  ·subst h2
   rw[BV,CK _ h1]at hj;exact(ng _ _ _ (o7 _ _ _ h1 e1) hj).elim
  ·rw[CK _ h1,CK _ h2]at hj
   exact h.sat.inj _ _ _ _ _ _ (o7 _ _ _ h1 e1) (o7 _ _ _ h2 e2) hj
 ·intro j t c' e hw
  by_cases hj:j=s
  ·subst hj
   obtain⟨rfl,rfl⟩:=YQ hf e;rw[BV];exact hl hw
  ·rw[CK _ hj];exact h.sat.low _ _ _ (o7 j t c' hj e) hw
theorem OP{k j:Nat}{x:Nat×BA}:∀{M:Mem},e8 (u9 k M) j=some x->j≠k/\e8 M j=some x
 |[],e=>by cases e
 |(i,s,c)::r,e=>by
  simp only[u9]at e;cases hb:za k i<;>simp only[hb,cond_true,cond_false]at e
  ·simp only[e8]at e⊢
   cases hj:za j i<;>simp only[hj,cond_true,cond_false]at e⊢
   ·exact OP e
   ·exact⟨λe'=>FR.1 hb (e'.symm.trans (BL.1 hj)),e⟩
  ·obtain⟨h1,h2⟩:=OP e
   refine⟨h1,?_⟩;simp only[e8];rw[FR.2 (λe'=>h1 (e'.trans (BL.1 hb).symm))];exact h2
theorem YX{own:Own}{p:Nat×Nat}{x:Option C2}{q:Nat×Nat}(h:q≠p):((own.put p.1 ((own p.1).q9 p.2 x)) q.1).c9 q.2=(own q.1).c9 q.2:=by
 by_cases hs:q.1=p.1
 ·rw[hs,Own.k9]
  simp only[BZ.q9];rw[if_neg (λe=>h (Ld hs e))]
 ·rw[Own.iw _ _ _ _ hs]
theorem qO{own:Own}{p:Nat×Nat}{x:Option C2}:((own.put p.1 ((own p.1).q9 p.2 x)) p.1).c9 p.2=x:=by simp[Own.k9,BZ.q9]
theorem iU{own:Own}{p:Nat×Nat}{x:Option C2}(s:Nat):((own.put p.1 ((own p.1).q9 p.2 x)) s).j6=(own s).j6:=by
 by_cases hs:s=p.1
 ·subst hs;rw[Own.k9];rfl
 ·rw[Own.iw _ _ _ _ hs]
theorem RX.Ia(h:RX σ tm M st){k s:Nat}{c:BA}(e:e8 M k=some (s,c))(hf:c.flat)(c':BA)(nq:c'.flat)(hir:c'.isRow=true->c.isRow=true) :
  RX σ tm ((k,s,c')::M) ⟨st.tm,st.own.put s ((st.own s).q9 (σ k 0).2 (some (c'.c9 σ k)))⟩:=by
 have hs:=h.sat.site _ _ _ e;subst hs;have e0:=EA e;have hg:∀j t c1,c8 ((k,(σ k 0).1,c')::M) j t=some c1->(j=k/\t=0/\c1=c')\/(j≠k/\c8 M j t=some c1):=by
  intro j t c1 e1;by_cases hj:j=k
  ·subst hj
   obtain⟨rfl,rfl⟩:=YQ nq e1;exact Or.inl ⟨rfl,rfl,rfl⟩
  ·rw[Q8 hj]at e1
   exact Or.inr ⟨hj,e1⟩
 have wo:∀j t c1,c8 ((k,(σ k 0).1,c')::M) j t=some c1->∃c2,c8 M j t=some c2:=by
  intro j t c1 e1;rcases hg j t c1 e1 with⟨rfl,rfl,rfl⟩|⟨_,h2⟩
  ·exact⟨c,e0⟩
  ·exact⟨c1,h2⟩
 refine⟨h.tm,⟨?_,?_,?_,?_,?_⟩⟩
 ·intro j s' c1 e1
  simp only[e8]at e1;cases hb:za j k<;>simp only[hb,cond_true,cond_false]at e1
  ·exact h.sat.site _ _ _ e1
  ·simp only[ya,ga]at e1
   rw[BL.1 hb];exact e1.1
 ·intro j t c1 e1
  rcases hg j t c1 e1 with⟨rfl,rfl,rfl⟩|⟨h1,h2⟩
  ·exact qO
  ·refine(YX (λhe=>?_)).trans (h.sat.c9 _ _ _ h2)
   exact h1 (h.sat.inj _ _ _ _ _ _ h2 e0 he).1
 ·intro j t c1 e1
  obtain⟨c2,e2⟩:=wo _ _ _ e1;show(σ j t).2<((st.own.put (σ k 0).1 ((st.own (σ k 0).1).q9 (σ k 0).2 (some (c'.c9 σ k)))) (σ j t).1).j6;rw[iU];exact h.sat.old _ _ _ e2
 ·intro j t j' t' c1 c2 e1 e2 hj
  obtain⟨_,Kn⟩:=wo _ _ _ e1;obtain⟨_,Ek⟩:=wo _ _ _ e2;exact h.sat.inj _ _ _ _ _ _ Kn Ek hj
 ·intro j t c1 e1 hw
  rcases hg j t c1 e1 with⟨rfl,rfl,rfl⟩|⟨_,h2⟩
  ·exact h.sat.low _ _ _ e0 (hir hw)
  ·exact h.sat.low _ _ _ h2 hw
theorem Tn{k t:Nat}{c:BA}(h:c8 M k (t+1)=some c):c.isRow=true:=by
 obtain⟨_,_,_,_,g3⟩:=JB h;obtain⟨_,_,_,_,_,rfl⟩:=g3 t rfl;rfl
theorem NX{k j t:Nat}{c:BA}(h:c8 (u9 k M) j t=some c):j≠k/\c8 M j t=some c:=by
 obtain⟨s,c0,g1,_⟩:=JB h;obtain⟨h1,h2⟩:=OP g1;refine⟨h1,?_⟩;unfold c8 at h⊢;rw[g1]at h;rw[h2];exact h
theorem RX.kill(h:RX σ tm M st){k s:Nat}{c:BA}(e:e8 M k=some (s,c)) :
  RX σ tm (u9 k M) ⟨st.tm,st.own.put s ((st.own s).q9 (σ k 0).2 none)⟩:=by
 have hs:=h.sat.site _ _ _ e;subst hs;have e0:=EA e;refine⟨h.tm,⟨?_,?_,?_,?_,?_⟩⟩
 ·intro j s' c1 e1
  exact h.sat.site _ _ _ (OP e1).2
 ·intro j t c1 e1
  obtain⟨hj,e1⟩:=NX e1;refine(YX (λhe=>?_)).trans (h.sat.c9 _ _ _ e1);exact hj (h.sat.inj _ _ _ _ _ _ e1 e0 he).1
 ·intro j t c1 e1
  obtain⟨hj,e1⟩:=NX e1;show(σ j t).2<((st.own.put (σ k 0).1 ((st.own (σ k 0).1).q9 (σ k 0).2 none)) (σ j t).1).j6;rw[iU];exact h.sat.old _ _ _ e1
 ·intro j t j' t' c1 c2 e1 e2 hj
  exact h.sat.inj _ _ _ _ _ _ (NX e1).2 (NX e2).2 hj
 ·intro j t c1 e1 hw
  exact h.sat.low _ _ _ (NX e1).2 hw
theorem RX.Pm(h:RX σ tm M st){k s i z:Nat}{rows:List (p_)}{es es':v_}(e:e8 M k=some (s,.mx rows))(hr:rows[i]?=some (some (z,es)))(hl:es'.length=es.length) :
  RX σ tm ((k,s,.mx (rows.set i (some (z,es'))))::M) ⟨st.tm,st.own.put (σ k (i+1)).1 ((st.own (σ k (i+1)).1).q9 (σ k (i+1)).2 (some ⟨z,es'⟩))⟩:=by
 have e1:c8 M k (i+1)=some (.rw z es):=by simp[c8,e,hr]
 have hi:i<rows.length:=(zS hr).1;have km:CE σ k 0 (rows.set i (some (z,es')))=CE σ k 0 rows:=by
  apply Aa;intro j;rw[IP,IP];by_cases hj:i=j
  ·subst hj;rw[Na hi,hr];simp[hl]
  ·rw[La hj]
 have hg:∀j t c1,c8 ((k,s,.mx (rows.set i (some (z,es'))))::M) j t=some c1->(j=k/\t=i+1/\c1 = .rw z es')\/(¬(j=k/\t=i+1)/\∃c2,c8 M j t=some c2/\c2.c9 σ j=c1.c9 σ j):=by
  intro j t c1 g;by_cases hj:j=k
  ·subst hj
   cases t with
   |zero=>
    rw[YP]at g;obtain rfl:=ua g;exact Or.inr ⟨O',_,EA e,by simp only[BA.c9,km]⟩
   |succ t=>
    simp only[c8,e8,fb,cond_true]at g;by_cases og:i=t
    ·subst og
     rw[Na hi]at g;exact Or.inl ⟨rfl,rfl,(ua g).symm⟩
    ·rw[La og]at g
     refine Or.inr ⟨O',c1,?_,rfl⟩;simp only[c8,e];exact g
  ·rw[Q8 hj]at g
   exact Or.inr ⟨O',c1,g,rfl⟩
 have wo:∀j t c1,c8 ((k,s,.mx (rows.set i (some (z,es'))))::M) j t=some c1->∃c2,c8 M j t=some c2:=by
  intro j t c1 g;rcases hg j t c1 g with⟨rfl,rfl,rfl⟩|⟨_,c2,h2,_⟩
  ·exact⟨_,e1⟩
  ·exact⟨c2,h2⟩
 refine⟨h.tm,⟨?_,?_,?_,?_,?_⟩⟩
 ·intro j s' c1 g
  simp only[e8]at g;cases hb:za j k<;>simp only[hb,cond_true,cond_false]at g
  ·exact h.sat.site _ _ _ g
  ·simp only[ya,ga]at g
   rw[BL.1 hb,<-g.1];exact h.sat.site _ _ _ e
 ·intro j t c1 g
  rcases hg j t c1 g with⟨rfl,rfl,rfl⟩|⟨h1,c2,h2,h3⟩
  ·exact qO
  ·rw[<-h3]
   refine(YX (λhe=>?_)).trans (h.sat.c9 _ _ _ h2);exact h1 (h.sat.inj _ _ _ _ _ _ h2 e1 he)
 ·intro j t c1 g
  obtain⟨c2,e2⟩:=wo _ _ _ g;show(σ j t).2<((st.own.put (σ k (i+1)).1 ((st.own (σ k (i+1)).1).q9 (σ k (i+1)).2 (some ⟨z,es'⟩))) (σ j t).1).j6;rw[iU];exact h.sat.old _ _ _ e2
 ·intro j t j' t' c1 c2 g1 g2 hj
  obtain⟨_,Kn⟩:=wo _ _ _ g1;obtain⟨_,Ek⟩:=wo _ _ _ g2;exact h.sat.inj _ _ _ _ _ _ Kn Ek hj
 ·intro j t c1 g hw
  obtain⟨c2,e2⟩:=wo _ _ _ g;cases t with
  |zero=>
   by_cases hj:j=k
   ·subst hj;exact h.sat.low _ _ _ (EA e) rfl
   ·rw[Q8 hj]at g;exact h.sat.low _ _ _ g hw
  |succ t=>exact h.sat.low _ _ _ e2 (Tn e2)
section
variable {k:Nat} {f:Nat->Nat × Nat}
theorem jU{v:AV}(hf:f 0=σ k 0)(h:NL k v=false):A7 (C7 σ k f) v=A7 σ v:=by
 cases v with
 |row j t z o n=>
  simp only[NL]at h;cases hb:za j k
  ·simp only[A7,CK f (FR.1 hb)]
  ·obtain rfl:=BL.1 hb
   simp only[hb,cond_true]at h;cases t with
   |zero=>simp only[A7,BV,hf]
   |succ t=>cases h
 |ptr j t a b=>
  simp only[NL]at h;cases hb:za j k
  ·simp only[A7,CK f (FR.1 hb)]
  ·obtain rfl:=BL.1 hb
   simp only[hb,cond_true]at h;cases t with
   |zero=>simp only[A7,BV,hf]
   |succ t=>cases h
 |mp j t=>
  simp only[NL]at h;cases hb:za j k
  ·simp only[A7,CK f (FR.1 hb)]
  ·obtain rfl:=BL.1 hb
   simp only[hb,cond_true]at h;cases t with
   |zero=>simp only[A7,BV,hf]
   |succ t=>cases h
 |_=>rfl
theorem cG(hf:f 0=σ k 0):∀{cs:w_},OG k cs=false->cs.map (A7 (C7 σ k f))=cs.map (A7 σ)
 |[],_=>rfl
 |c::r,h=>by
  simp only[OG]at h;cases h1:NL k c<;>simp only[h1,cond_true,cond_false]at h
  ·rw[va,va,jU hf h1,cG hf h]
  ·cases h
theorem Zc(hf:f 0=σ k 0):∀{es:v_},XV k es=false->(es.map λcs=>cs.map (A7 (C7 σ k f)))=es.map λcs=>cs.map (A7 σ)
 |[],_=>rfl
 |c::r,h=>by
  simp only[XV]at h;cases h1:OG k c<;>simp only[h1,cond_true,cond_false]at h
  ·rw[va,va,cG hf h1,Zc hf h]
  ·cases h
theorem Y9{v:AV}(hf:f 0=σ k 0)(h:VM k v=false):BK (C7 σ k f) v=BK σ v:=by
 cases v with
 |agg cs=>simp only[VM]at h;simp only[BK,cG hf h]
 |fn p f g cs=>simp only[VM]at h;simp only[BK,cG hf h]
 |row a b c d e=>exact jU (v := .row a b c d e) hf h
 |ptr a b c d=>exact jU (v := .ptr a b c d) hf h
 |mp a b=>exact jU (v := .mp a b) hf h
 |_=>rfl
theorem Zd(hf:f 0=σ k 0):∀{cs:w_},XT k cs=false->cs.map (BK (C7 σ k f))=cs.map (BK σ)
 |[],_=>rfl
 |c::r,h=>by
  simp only[XT]at h;cases h1:VM k c<;>simp only[h1,cond_true,cond_false]at h
  ·rw[va,va,Y9 hf h1,Zd hf h]
  ·cases h
theorem Anz{v:AV}(hf:f 0=σ k 0)(h:RU k v=false):BB (C7 σ k f) v=BB σ v:=by
 cases v with
 |j4 cs=>simp only[RU]at h;simp only[BB,Zd hf h]
 |agg cs=>exact Y9 (v := .agg cs) hf h
 |fn p f g cs=>exact Y9 (v := .fn p f g cs) hf h
 |row a b c d e=>exact Y9 (v := .row a b c d e) hf h
 |ptr a b c d=>exact Y9 (v := .ptr a b c d) hf h
 |mp a b=>exact Y9 (v := .mp a b) hf h
 |_=>rfl
theorem vI:∀{tm:Tm},OH k tm=false->∀j,RU k (tg tm j)=false
 |[],_,_=>rfl
 |(i,v)::r,h,j=>by
  simp only[OH]at h;cases h1:RU k v<;>simp only[h1,cond_true,cond_false]at h
  ·simp only[tg]
   cases za j i
   ·exact vI h j
   ·exact h1
  ·cases h
theorem vF:∀{M:Mem},MD k M=false->∀j s c,e8 M j=some (s,c)->QP k c=false
 |[],_,_,_,_,e=>by cases e
 |(i,s0,c0)::r,h,j,s,c,e=>by
  simp only[MD]at h;cases h1:QP k c0<;>simp only[h1,cond_true,cond_false]at h
  ·simp only[e8]at e
   cases h2:za j i<;>simp only[h2,cond_true,cond_false]at e
   ·exact vF h j s c e
   ·simp only[ya,ga]at e
    obtain⟨_,rfl⟩:=e;exact h1
  ·cases h
theorem Agm{c:BA}{j:Nat}(hf:f 0=σ k 0)(h:QP k c=false)(hj:j≠k):c.c9 (C7 σ k f) j=c.c9 σ j:=by
 cases c with
 |bx cs=>simp only[QP]at h;simp only[BA.c9,cG hf h]
 |rw z es=>rfl
 |bs z es=>simp only[QP]at h;simp only[BA.c9,Zc hf h]
 |mx rows=>simp only[BA.c9];rw[SZ rows 0 λi _=>by rw[CK f hj]]
 |hx a v rows=>simp only[BA.c9];rw[SZ rows 0 λi _=>by rw[CK f hj]]
 |vw w rows=>simp only[BA.c9];rw[SZ rows 0 λi _=>by rw[CK f hj]]
end
theorem RX.Ct(h:RX σ tm M st){k k2 s s2 i z:Nat}{rows:List (p_)}{es:v_}{c0:BA}(e:e8 M k=some (s,c0))(dz:c0 = .mx rows\/∃v,c0 = .hx i v rows)(e2:e8 M k2=some (s2,.rw z es))(hk:k≠k2)(er:OH k tm=false)(ur:MD k M=false)(hi:i<rows.length) :
  RX (C7 σ k λt=>if t=i+1 then σ k2 0 else σ k t) tm ((k,s,.mx (rows.set i (some (z,es))))::u9 k2 M) ⟨st.tm,st.own.put s ((st.own s).q9 (σ k 0).2 (some ⟨1,(CE σ k 0 rows).set i [.row (σ k2 0).1 (σ k2 0).2 z 0 es.length]⟩))⟩:=by
 have hs:=h.sat.site _ _ _ e;subst hs;have r0:=EA e;have r2:=EA e2;have f0:(λt=>if t=i+1 then σ k2 0 else σ k t) 0=σ k 0:=Z'
 have km:CE (C7 σ k λt=>if t=i+1 then σ k2 0 else σ k t) k 0 (rows.set i (some (z,es)))=(CE σ k 0 rows).set i [.row (σ k2 0).1 (σ k2 0).2 z 0 es.length]:=by
  apply Aa;intro j;rw[IP,BV];by_cases hj:i=j
  ·subst hj
   rw[Na hi,Na (by rw[G2];exact hi)];simp
  ·rw[La hj,La hj,IP]
   congr 1;funext r
   cases r with
   |none=>rfl
   |some x=>simp only[ub];rw[if_neg O']
 have hg:∀j t c,c8 ((k,(σ k 0).1,.mx (rows.set i (some (z,es))))::u9 k2 M) j t=some c ->
   (j=k/\t=0/\c = .mx (rows.set i (some (z,es))))\/(j=k/\t=i+1/\c = .rw z es)\/(j=k/\t≠0/\t≠i+1/\c8 M k t=some c)\/(j≠k/\j≠k2/\c8 M j t=some c):=by
  intro j t c g;by_cases hj:j=k
  ·subst hj
   cases t with
   |zero=>rw[YP]at g;exact Or.inl ⟨rfl,rfl,(ua g).symm⟩
   |succ t=>
    simp only[c8,e8,fb,cond_true]at g;by_cases og:i=t
    ·subst og
     rw[Na hi]at g;exact Or.inr (Or.inl ⟨rfl,rfl,(ua g).symm⟩)
    ·rw[La og]at g
     refine Or.inr (Or.inr (Or.inl ⟨rfl,O',O',?_⟩));rcases dz with rfl|⟨v,rfl⟩
     ·simp only[c8,e]
      exact g
     ·simp only[c8,e]
      exact g
  ·rw[Q8 hj]at g
   obtain⟨g1,g2⟩:=NX g;exact Or.inr (Or.inr (Or.inr ⟨hj,g1,g2⟩))
 have hch:∀j t c,c8 M j t=some c->QP k c=false:=by
  intro j t c g;obtain⟨s1,c0,g1,g2,g3⟩:=JB g;cases t with
  |zero=>rw[g2 rfl];exact vF ur _ _ _ g1
  |succ t=>obtain⟨_,_,_,_,_,rfl⟩:=g3 t rfl;rfl
 refine⟨λj=>?_,⟨?_,?_,?_,?_,?_⟩⟩
 ·rw[Anz (f:=λt=>if t=i+1 then σ k2 0 else σ k t) f0 (vI er j)];exact h.tm j
 ·intro j s' c g
  simp only[e8]at g;cases hb:za j k<;>simp only[hb,cond_true,cond_false]at g
  ·rw[CK _ (FR.1 hb)];exact h.sat.site _ _ _ (OP g).2
  ·simp only[ya,ga]at g
   rw[BL.1 hb,BV,<-g.1];simp
 ·intro j t c g
  rcases hg j t c g with⟨rfl,rfl,rfl⟩|⟨rfl,rfl,rfl⟩|⟨rfl,h0,h1,g2⟩|⟨h0,h1,g2⟩
  ·rw[BV]
   simp only[BA.c9,km];exact qO
  ·rw[BV]
   simp only[if_true];exact(YX (λhe=>hk (h.sat.inj _ _ _ _ _ _ r2 r0 he).1.symm)).trans (h.sat.c9 _ _ _ r2)
  ·rw[BV]
   simp only[h1,if_false];have hb:c.c9 (C7 σ j λt=>if t=i+1 then σ k2 0 else σ j t) j=c.c9 σ j:=by
    obtain⟨_,_,_,_,g3⟩:=JB g2;obtain⟨t',rfl⟩:∃t',t=t'+1:=⟨t-1,O'⟩;obtain⟨_,_,_,_,_,rfl⟩:=g3 t' rfl;rfl
   rw[hb];exact(YX (λhe=>h0 (h.sat.inj _ _ _ _ _ _ g2 r0 he).2)).trans (h.sat.c9 _ _ _ g2)
  ·rw[CK _ h0,Agm (f:=λt=>if t=i+1 then σ k2 0 else σ k t) f0 (hch _ _ _ g2) h0]
   exact(YX (λhe=>h0 (h.sat.inj _ _ _ _ _ _ g2 r0 he).1)).trans (h.sat.c9 _ _ _ g2)
 ·intro j t c g
  rw[iU];rcases hg j t c g with⟨rfl,rfl,rfl⟩|⟨rfl,rfl,rfl⟩|⟨rfl,h0,h1,g2⟩|⟨h0,h1,g2⟩
  ·rw[BV];simpa using h.sat.old _ _ _ r0
  ·rw[BV];simpa using h.sat.old _ _ _ r2
  ·rw[BV];simp only[h1,if_false];exact h.sat.old _ _ _ g2
  ·rw[CK _ h0];exact h.sat.old _ _ _ g2
 ·-- each name is that of Eb in the old memory
  have hold:∀j t c,c8 ((k,(σ k 0).1,.mx (rows.set i (some (z,es))))::u9 k2 M) j t=some c->∃j0 t0 c0,c8 M j0 t0=some c0/\(C7 σ k λt=>if t=i+1 then σ k2 0 else σ k t) j t=σ j0 t0/\((j0=k2/\t0=0/\j=k/\t=i+1)\/(j0=j/\t0=t/\j≠k2)):=by
   intro j t c g;rcases hg j t c g with⟨rfl,rfl,rfl⟩|⟨rfl,rfl,rfl⟩|⟨rfl,h0,h1,g2⟩|⟨h0,h1,g2⟩
   ·exact⟨_,_,_,r0,by rw[BV];simp,Or.inr ⟨rfl,rfl,hk⟩⟩
   ·exact⟨_,_,_,r2,by rw[BV];simp,Or.inl ⟨rfl,rfl,rfl,rfl⟩⟩
   ·exact⟨_,_,_,g2,by rw[BV];simp[h1],Or.inr ⟨rfl,rfl,hk⟩⟩
   ·exact⟨_,_,_,g2,by rw[CK _ h0],Or.inr ⟨rfl,rfl,h1⟩⟩
  intro j t j' t' c c' g g' hj;obtain⟨j0,t0,c0,a1,a2,a3⟩:=hold j t c g;obtain⟨j1,t1,c1,b1,b2,b3⟩:=hold j' t' c' g';rw[a2,b2]at hj;obtain⟨q1,q2⟩:=h.sat.inj _ _ _ _ _ _ a1 b1 hj;rcases a3 with⟨x1,x2,x3,x4⟩|⟨x1,x2,x3⟩<;>rcases b3 with⟨y1,y2,y3,y4⟩|⟨y1,y2,y3⟩
  ·exact⟨x3.trans y3.symm,x4.trans y4.symm⟩
  ·exact absurd (y1.symm.trans (q1.symm.trans x1)) y3
  ·exact absurd (x1.symm.trans (q1.trans y1)) x3
  ·exact⟨x1.symm.trans (q1.trans y1),x2.symm.trans (q2.trans y2)⟩
 ·intro j t c g hw
  rcases hg j t c g with⟨rfl,rfl,rfl⟩|⟨rfl,rfl,rfl⟩|⟨rfl,h0,h1,g2⟩|⟨h0,h1,g2⟩
  ·rw[BV];simpa using h.sat.low _ _ _ r0 (by rcases dz with rfl|⟨v,rfl⟩<;>rfl)
  ·rw[BV];simpa using h.sat.low _ _ _ r2 rfl
  ·rw[BV];simp only[h1,if_false];exact h.sat.low _ _ _ g2 hw
  ·rw[CK _ h0];exact h.sat.low _ _ _ g2 hw
theorem V8{own:Own}{q t:Nat}{b:C2}{p:Nat×Nat}(h:p≠(q,t))(ho:p.2<(own p.1).j6):((own.put q (((own q).q9 t none).new b)) p.1).c9 p.2=(own p.1).c9 p.2:=by
 by_cases hs:p.1=q
 ·rw[hs]at ho⊢
  rw[Own.k9];simp only[BZ.new,BZ.q9];have h1:¬p.2=(own q).j6:=O'
  have h2:¬p.2=t:=λe=>h (Ld hs e)
  simp only[h1,h2,if_false]
 ·rw[Own.iw _ _ _ _ hs]
theorem V9{own:Own}{q t:Nat}{b:C2}(s:Nat):(own s).j6<=((own.put q (((own q).q9 t none).new b)) s).j6:=by
 by_cases hs:s=q
 ·subst hs;rw[Own.k9];simp only[BZ.new,BZ.q9];omega
 ·rw[Own.iw _ _ _ _ hs];exact oa _
theorem RX.Ki(h:RX σ tm M st){s key sk i z:Nat}{rows:List (p_)}{es es':v_}(e:e8 M key=some (sk,.mx rows))(hr:rows[i]?=some (some (z,es)))(hm:IB s M=false)(ht:JU s tm=false) :
  RX (C7 σ s λ_=>((σ key (i+1)).1,st.own.j6 (σ key (i+1)).1)) tm ((s,(σ key (i+1)).1,.rw z es')::(key,sk,.hx i (.row (σ key (i+1)).1 (σ key (i+1)).2 z 0 es.length) (rows.set i none))::u9 key M)
   ⟨st.tm,st.own.put (σ key (i+1)).1 (((st.own (σ key (i+1)).1).q9 (σ key (i+1)).2 none).new ⟨z,es'⟩)⟩:=by
 have r0:=EA e;have e1:c8 M key (i+1)=some (.rw z es):=by simp[c8,e,hr]
 have hi:i<rows.length:=(zS hr).1;have ye:key≠s:=(WP hm _ _ _ e).1;have km:(CE (C7 σ s λ_=>((σ key (i+1)).1,st.own.j6 (σ key (i+1)).1)) key 0 (rows.set i none)).set i [.row (σ key (i+1)).1 (σ key (i+1)).2 z 0 es.length]=CE σ key 0 rows:=by
  apply Aa;intro j;by_cases hj:i=j
  ·subst hj
   rw[Na (by rw[G2,List.length_set];exact hi),IP,hr];simp
  ·rw[La hj,IP,IP,La hj,CK _ ye]
 have Ch:∀j t c',c8 M j t=some c'->JT s c'=false/\j≠s:=by
  intro j t c' g;obtain⟨s1,c0,g1,g2,g3⟩:=JB g;obtain⟨g4,g5⟩:=WP hm _ _ _ g1;refine⟨?_,g4⟩;cases t with
  |zero=>rw[g2 rfl];exact g5
  |succ i=>obtain⟨rows,z,es,_,_,rfl⟩:=g3 i rfl;rfl
 have hg:∀j t c,c8 ((s,(σ key (i+1)).1,.rw z es')::(key,sk,.hx i (.row (σ key (i+1)).1 (σ key (i+1)).2 z 0 es.length) (rows.set i none))::u9 key M) j t=some c ->
   (j=s/\t=0/\c = .rw z es')\/(j=key/\t=0/\c = .hx i (.row (σ key (i+1)).1 (σ key (i+1)).2 z 0 es.length) (rows.set i none))\/(j≠s/\¬(j=key/\t=0)/\¬(j=key/\t=i+1)/\(j=key->∃z es,c = .rw z es)/\c8 M j t=some c):=by
  intro j t c g;by_cases hj:j=s
  ·subst hj
   obtain⟨rfl,rfl⟩:=YQ (c := .rw z es') trivial g;exact Or.inl ⟨rfl,rfl,rfl⟩
  ·rw[Q8 hj]at g
   by_cases hk:j=key
   ·subst hk
    cases t with
    |zero=>rw[YP]at g;exact Or.inr (Or.inl ⟨rfl,rfl,(ua g).symm⟩)
    |succ t=>
     simp only[c8,e8,fb,cond_true]at g;by_cases og:i=t
     ·subst og
      rw[Na hi]at g;cases g
     ·rw[La og]at g
      refine Or.inr (Or.inr ⟨hj,O',O',λ_=>?_,?_⟩)
      ·split at g
       ·exact⟨_,_,(ua g).symm⟩
       ·cases g
      ·simp only[c8,e]
       exact g
   ·rw[Q8 hk]at g
    obtain⟨g1,g2⟩:=NX g;exact Or.inr (Or.inr ⟨hj,O',O',λh=>absurd h hk,g2⟩)
 refine⟨λj=>?_,⟨?_,?_,?_,?_,?_⟩⟩
 ·rw[jX (Y0 ht j)];exact h.tm j
 ·intro j s1 c g
  simp only[e8]at g;cases hb:za j s<;>simp only[hb,cond_true,cond_false]at g
  ·rw[CK _ (FR.1 hb)]
   cases v8:za j key<;>simp only[v8,cond_true,cond_false]at g
   ·exact h.sat.site _ _ _ (OP g).2
   ·simp only[ya,ga]at g
    rw[BL.1 v8,<-g.1];exact h.sat.site _ _ _ e
  ·simp only[ya,ga]at g
   rw[BL.1 hb,BV,<-g.1]
 ·intro j t c g
  rcases hg j t c g with⟨rfl,rfl,rfl⟩|⟨rfl,rfl,rfl⟩|⟨h0,h1,h2,h3,g2⟩
  ·rw[BV]
   simp[Own.k9,BZ.new,Own.j6,BZ.q9,BA.c9]
  ·rw[CK _ ye]
   simp only[BA.c9,km];exact(V8 (λhe=>absurd (h.sat.inj _ _ _ _ _ _ r0 e1 he).2 O') (h.sat.old _ _ _ r0)).trans (h.sat.c9 _ _ _ r0)
  ·rw[CK _ h0,dU (Ch _ _ _ g2).1 h0]
   exact(V8 (λhe=>h2 (h.sat.inj _ _ _ _ _ _ g2 e1 he)) (h.sat.old _ _ _ g2)).trans (h.sat.c9 _ _ _ g2)
 ·intro j t c g
  rcases hg j t c g with⟨rfl,rfl,rfl⟩|⟨rfl,rfl,rfl⟩|⟨h0,h1,h2,h3,g2⟩
  ·rw[BV]
   simp[Own.k9,BZ.new,Own.j6,BZ.q9]
  ·rw[CK _ ye]
   exact Fa (h.sat.old _ _ _ r0) (V9 _)
  ·rw[CK _ h0]
   exact Fa (h.sat.old _ _ _ g2) (V9 _)
 ·have hold:∀j t c,c8 ((s,(σ key (i+1)).1,.rw z es')::(key,sk,.hx i (.row (σ key (i+1)).1 (σ key (i+1)).2 z 0 es.length) (rows.set i none))::u9 key M) j t=some c->(j=s/\t=0)\/(j≠s/\∃c0,c8 M j t=some c0):=by
   intro j t c g;rcases hg j t c g with⟨rfl,rfl,rfl⟩|⟨rfl,rfl,rfl⟩|⟨h0,h1,h2,h3,g2⟩
   ·exact Or.inl ⟨rfl,rfl⟩
   ·exact Or.inr ⟨ye,_,r0⟩
   ·exact Or.inr ⟨h0,_,g2⟩
  have oh:∀j0 t0 c0,c8 M j0 t0=some c0->((σ key (i+1)).1,st.own.j6 (σ key (i+1)).1)≠σ j0 t0:=by
   intro j0 t0 c0 g he;have:=h.sat.old _ _ _ g
   rw[<-he]at this;exact absurd this (Db _)
  intro j t j' t' c c' g g' hj;rcases hold j t c g with⟨rfl,rfl⟩|⟨a1,c1,a2⟩<;>rcases hold j' t' c' g' with⟨rfl,rfl⟩|⟨b1,c2,b2⟩
  ·exact⟨rfl,rfl⟩
  ·rw[BV,CK _ b1]at hj;exact absurd hj (oh _ _ _ b2)
  ·rw[BV,CK _ a1]at hj;exact absurd hj.symm (oh _ _ _ a2)
  ·rw[CK _ a1,CK _ b1]at hj
   exact h.sat.inj _ _ _ _ _ _ a2 b2 hj
 ·intro j t c g hw
  rcases hg j t c g with⟨rfl,rfl,rfl⟩|⟨rfl,rfl,rfl⟩|⟨h0,h1,h2,h3,g2⟩
  ·rw[BV];exact h.sat.low _ _ _ e1 rfl
  ·rw[CK _ ye];exact h.sat.low _ _ _ r0 rfl
  ·rw[CK _ h0];exact h.sat.low _ _ _ g2 hw
theorem RX.Kk(h:RX σ tm M st){s key s':Nat}{rows:List (p_)}(e:e8 M key=some (s',.mx rows))(hm:IB s M=false)(ht:JU s tm=false) :
  RX (C7 σ s λt=>match t with|0=>(s',st.own.j6 s')|i+1=>σ key (i+1)) tm ((s,s',.mx (rows++[none]))::u9 key M)
   ⟨st.tm,st.own.put s' (((st.own s').q9 (σ key 0).2 none).new ⟨1,CE σ key 0 rows++[[.nil]]⟩)⟩:=by
 have hs:=h.sat.site _ _ _ e;subst hs;have r0:=EA e;generalize hF:(λt=>match t with|0=>((σ key 0).1,st.own.j6 (σ key 0).1)|i+1=>σ key (i+1):Nat->Nat×Nat)=F;have F0:F 0=((σ key 0).1,st.own.j6 (σ key 0).1):=by rw[<-hF]
 have F1:∀i,F (i+1)=σ key (i+1):=by intro i;rw[<-hF]
 have km:CE (C7 σ s F) s 0 (rows++[none])=CE σ key 0 rows++[[.nil]]:=by
  apply Aa;intro j;rw[IP,BV];rcases Ob j rows.length with hj|hj|hj
  ·rw[Ga hj,Ga (by rw[G2];exact hj),IP]
   congr 1;funext r
   cases r with
   |none=>rfl
   |some x=>simp only[ub];rw[F1]
  ·subst hj
   rw[Ja (oa _),Ja (by rw[G2];exact oa _),G2];simp
  ·rw[Ca K',Ca (by simp[G2];omega)];rfl
 have Ch:∀j t c',c8 M j t=some c'->JT s c'=false/\j≠s:=by
  intro j t c' g;obtain⟨s1,c0,g1,g2,g3⟩:=JB g;obtain⟨g4,g5⟩:=WP hm _ _ _ g1;refine⟨?_,g4⟩;cases t with
  |zero=>rw[g2 rfl];exact g5
  |succ i=>obtain⟨rows,z,es,_,_,rfl⟩:=g3 i rfl;rfl
 have hg:∀j t c,c8 ((s,(σ key 0).1,.mx (rows++[none]))::u9 key M) j t=some c ->
   (j=s/\t=0/\c = .mx (rows++[none]))\/(j=s/\t≠0/\c8 M key t=some c)\/(j≠s/\j≠key/\c8 M j t=some c):=by
  intro j t c g;by_cases hj:j=s
  ·subst hj
   cases t with
   |zero=>rw[YP]at g;exact Or.inl ⟨rfl,rfl,(ua g).symm⟩
   |succ t=>
    simp only[c8,e8,fb,cond_true]at g;rcases Ob t rows.length with nb|nb|nb
    ·rw[Ga nb]at g
     refine Or.inr (Or.inl ⟨rfl,O',?_⟩);simp only[c8,e];exact g
    ·subst nb
     rw[Ja (oa _),gd]at g;simp at g
    ·rw[Ca K']at g;cases g
  ·rw[Q8 hj]at g
   obtain⟨g1,g2⟩:=NX g;exact Or.inr (Or.inr ⟨hj,g1,g2⟩)
 refine⟨λj=>?_,⟨?_,?_,?_,?_,?_⟩⟩
 ·rw[jX (Y0 ht j)];exact h.tm j
 ·intro j s1 c g
  simp only[e8]at g;cases hb:za j s<;>simp only[hb,cond_true,cond_false]at g
  ·rw[CK _ (FR.1 hb)];exact h.sat.site _ _ _ (OP g).2
  ·simp only[ya,ga]at g
   rw[BL.1 hb,BV,F0,<-g.1]
 ·intro j t c g
  rcases hg j t c g with⟨rfl,rfl,rfl⟩|⟨rfl,h0,g2⟩|⟨h0,h1,g2⟩
  ·rw[BV,F0]
   simp only[BA.c9,km];simp[Own.k9,BZ.new,Own.j6,BZ.q9]
  ·obtain⟨t',rfl⟩:∃t',t=t'+1:=⟨t-1,O'⟩
   rw[BV,F1];have hb:c.c9 (C7 σ j F) j=c.c9 σ key:=by
    obtain⟨_,_,_,_,g3⟩:=JB g2;obtain⟨_,_,_,_,_,rfl⟩:=g3 t' rfl;rfl
   rw[hb];exact(V8 (λhe=>absurd (h.sat.inj _ _ _ _ _ _ g2 r0 he).2 O') (h.sat.old _ _ _ g2)).trans (h.sat.c9 _ _ _ g2)
  ·rw[CK _ h0,dU (Ch _ _ _ g2).1 h0]
   exact(V8 (λhe=>h1 (h.sat.inj _ _ _ _ _ _ g2 r0 he).1) (h.sat.old _ _ _ g2)).trans (h.sat.c9 _ _ _ g2)
 ·intro j t c g
  rcases hg j t c g with⟨rfl,rfl,rfl⟩|⟨rfl,h0,g2⟩|⟨h0,h1,g2⟩
  ·rw[BV,F0]
   simp[Own.k9,BZ.new,Own.j6,BZ.q9]
  ·obtain⟨t',rfl⟩:∃t',t=t'+1:=⟨t-1,O'⟩
   rw[BV,F1];exact Fa (h.sat.old _ _ _ g2) (V9 _)
  ·rw[CK _ h0]
   exact Fa (h.sat.old _ _ _ g2) (V9 _)
 ·have hold:∀j t c,c8 ((s,(σ key 0).1,.mx (rows++[none]))::u9 key M) j t=some c->(j=s/\t=0)\/∃j0 t0 c0,c8 M j0 t0=some c0/\C7 σ s F j t=σ j0 t0/\((j0=key/\t0=t/\j=s)\/(j0=j/\t0=t/\j≠key)):=by
   intro j t c g;rcases hg j t c g with⟨rfl,rfl,rfl⟩|⟨rfl,h0,g2⟩|⟨h0,h1,g2⟩
   ·exact Or.inl ⟨rfl,rfl⟩
   ·obtain⟨t',rfl⟩:∃t',t=t'+1:=⟨t-1,O'⟩
    exact Or.inr ⟨_,_,_,g2,by rw[BV,F1],Or.inl ⟨rfl,rfl,rfl⟩⟩
   ·exact Or.inr ⟨_,_,_,g2,by rw[CK _ h0],Or.inr ⟨rfl,rfl,h1⟩⟩
  have oh:∀j0 t0 c0,c8 M j0 t0=some c0->C7 σ s F s 0≠σ j0 t0:=by
   intro j0 t0 c0 g he;rw[BV,F0]at he;have:=h.sat.old _ _ _ g
   rw[<-he]at this;exact absurd this (Db _)
  intro j t j' t' c c' g g' hj;rcases hold j t c g with⟨rfl,rfl⟩|⟨j0,t0,c0,a1,a2,a3⟩<;>rcases hold j' t' c' g' with⟨rfl,rfl⟩|⟨j1,t1,c1,b1,b2,b3⟩
  ·exact⟨rfl,rfl⟩
  ·rw[b2]at hj;exact absurd hj (oh _ _ _ b1)
  ·rw[a2]at hj;exact absurd hj.symm (oh _ _ _ a1)
  ·rw[a2,b2]at hj
   obtain⟨q1,q2⟩:=h.sat.inj _ _ _ _ _ _ a1 b1 hj;rcases a3 with⟨x1,x2,x3⟩|⟨x1,x2,x3⟩<;>rcases b3 with⟨y1,y2,y3⟩|⟨y1,y2,y3⟩
   ·exact⟨x3.trans y3.symm,x2.symm.trans (q2.trans y2)⟩
   ·exact absurd (y1.symm.trans (q1.symm.trans x1)) y3
   ·exact absurd (x1.symm.trans (q1.trans y1)) x3
   ·exact⟨x1.symm.trans (q1.trans y1),x2.symm.trans (q2.trans y2)⟩
 ·intro j t c g hw
  rcases hg j t c g with⟨rfl,rfl,rfl⟩|⟨rfl,h0,g2⟩|⟨h0,h1,g2⟩
  ·rw[BV,F0];exact h.sat.low _ _ _ r0 rfl
  ·obtain⟨t',rfl⟩:∃t',t=t'+1:=⟨t-1,O'⟩
   rw[BV,F1];exact h.sat.low _ _ _ g2 hw
  ·rw[CK _ h0];exact h.sat.low _ _ _ g2 hw
theorem eA{k:Nat}{v:AV}(h:LX k v=false):NL k v=false:=by
 cases v with
 |row j t z o n=>simp only[LX]at h;simp only[NL,h,cond_false]
 |ptr j t a b=>simp only[LX]at h;simp only[NL,h,cond_false]
 |mp j t=>simp only[LX]at h;simp only[NL,h,cond_false]
 |_=>rfl
theorem Z2{k:Nat}:∀{cs:w_},J9 k cs=false->OG k cs=false
 |[],_=>rfl
 |c::r,h=>by
  simp only[J9]at h;cases h1:LX k c<;>simp only[h1,cond_true,cond_false]at h
  ·simp only[OG,eA h1,cond_false,Z2 h]
  ·cases h
theorem vE{k:Nat}:∀{es:v_},UP k es=false->XV k es=false
 |[],_=>rfl
 |c::r,h=>by
  simp only[UP]at h;cases h1:J9 k c<;>simp only[h1,cond_true,cond_false]at h
  ·simp only[XV,Z2 h1,cond_false,vE h]
  ·cases h
theorem XU{k:Nat}{v:AV}(h:RD k v=false):VM k v=false:=by
 cases v with
 |agg cs=>exact Z2 h
 |fn p f g cs=>exact Z2 h
 |row a b c d e=>exact eA (v := .row a b c d e) h
 |ptr a b c d=>exact eA (v := .ptr a b c d) h
 |mp a b=>exact eA (v := .mp a b) h
 |_=>rfl
theorem vD{k:Nat}:∀{cs:w_},YZ k cs=false->XT k cs=false
 |[],_=>rfl
 |c::r,h=>by
  simp only[YZ]at h;cases h1:RD k c<;>simp only[h1,cond_true,cond_false]at h
  ·simp only[XT,XU h1,cond_false,vD h]
  ·cases h
theorem Agz{k:Nat}{v:AV}(h:N3 k v=false):RU k v=false:=by
 cases v with
 |j4 cs=>exact vD h
 |agg cs=>exact XU (v := .agg cs) h
 |fn p f g cs=>exact XU (v := .fn p f g cs) h
 |row a b c d e=>exact XU (v := .row a b c d e) h
 |ptr a b c d=>exact XU (v := .ptr a b c d) h
 |mp a b=>exact XU (v := .mp a b) h
 |_=>rfl
theorem vH{k:Nat}:∀{tm:Tm},JU k tm=false->OH k tm=false
 |[],_=>rfl
 |(i,v)::r,h=>by
  simp only[JU]at h;cases h1:N3 k v<;>simp only[h1,cond_true,cond_false]at h
  ·simp only[OH,Agz h1,cond_false,vH h]
  ·cases h
theorem vG{k:Nat}:∀{M:Mem},IB k M=false->MD k M=false
 |[],_=>rfl
 |(i,s,c)::r,h=>by
  simp only[IB]at h;cases h0:za k i<;>simp only[h0,cond_true,cond_false]at h
  ·cases h1:JT k c<;>simp only[h1,cond_true,cond_false]at h
   ·have:QP k c=false:=by
     cases c with
     |bx cs=>exact Z2 h1
     |bs z es=>exact vE h1
     |_=>rfl
    simp only[MD,this,cond_false,vG h]
   ·cases h
  ·cases h
theorem RX.hid{M1 M2:Mem}(hm:∀k,e8 M1 k=e8 M2 k)(h:RX σ tm M1 st):RX σ tm M2 st:=by
 have hr:∀k t,c8 M1 k t=c8 M2 k t:=λk t=>by simp only[c8,hm]
 refine⟨h.tm,⟨λk s c e=>?_,λk t c e=>?_,λk t c e=>?_,λk t k' t' c c' e e'=>?_,λk t c e hw=>?_⟩⟩
 ·rw[<-hm]at e;exact h.sat.site _ _ _ e
 ·rw[<-hr]at e;exact h.sat.c9 _ _ _ e
 ·rw[<-hr]at e;exact h.sat.old _ _ _ e
 ·rw[<-hr]at e e';exact h.sat.inj _ _ _ _ _ _ e e'
 ·rw[<-hr]at e;exact h.sat.low _ _ _ e hw
theorem RX.Pl(h:RX σ tm M st){s q k2 s2 z:Nat}{es:v_}(e2:e8 M k2=some (s2,.rw z es))(hk:s≠k2)(hm:IB s M=false)(ht:JU s tm=false)(hq:E2 q=true) :
  ∃σ',σ' s 0=(q,st.own.j6 q)/\RX σ' tm ((s,q,.mx [some (z,es)])::u9 k2 M) ⟨st.tm,st.own.put q ((st.own q).new ⟨1,[[.row (σ k2 0).1 (σ k2 0).2 z 0 es.length]]⟩)⟩:=by
 have iq:BA.flat (.mx [none]):=by
  intro i x hx;cases i with
  |zero=>simp at hx
  |succ i=>simp at hx
 have h1:=h.gy (s:=s) (q:=q) hm ht (.mx [none]) iq rfl (λ_=>hq);have Ek:e8 ((s,q,.mx [none])::M) k2=some (s2,.rw z es):=by
  simp only[e8,FR.2 (λe=>hk e.symm),cond_false];exact e2
 have ur:MD s ((s,q,.mx [none])::M)=false:=by simp only[MD,QP,cond_false,vG hm]
 have h2:=h1.Ct (k:=s) (s:=q) (k2:=k2) (i:=0) (rows:=[none]) (c0 := .mx [none]) (by simp[e8]) (Or.inl rfl) Ek hk (vH ht) ur Z';refine⟨C7 σ s (λt=>if t=0+1 then σ k2 0 else(q,st.own.j6 q)),?_,?_⟩
 ·rw[BV];simp
 ·have hσ:(C7 (C7 σ s λ_=>(q,st.own.j6 q)) s λt=>if t=0+1 then(C7 σ s λ_=>(q,st.own.j6 q)) k2 0 else(C7 σ s λ_=>(q,st.own.j6 q)) s t)=C7 σ s (λt=>if t=0+1 then σ k2 0 else(q,st.own.j6 q)):=by
   funext j t
   by_cases hj:j=s
   ·subst hj;rw[BV,BV];simp only[BV,CK _ (λe=>hk e.symm)]
   ·rw[CK _ hj,CK _ hj,CK _ hj]
  rw[hσ]at h2;have hM:u9 k2 ((s,q,BA.mx [none])::M)=(s,q,.mx [none])::u9 k2 M:=by
   simp only[u9,FR.2 (λe=>hk e.symm),cond_false]
  rw[hM]at h2;have ho:∀b b':C2,(st.own.put q ((st.own q).new b)).put q (((st.own.put q ((st.own q).new b)) q).q9 (st.own.j6 q) (some b'))=st.own.put q ((st.own q).new b'):=by
   intro b b';rw[Own.jo,Own.k9];congr 1;simp only[BZ.q9,BZ.new,Own.j6,BZ.mk.injEq,true_and];funext t'
   by_cases nb:t'=(st.own q).j6<;>simp[nb]
  have hn:(C7 σ s λ_=>(q,st.own.j6 q)) s 0=(q,st.own.j6 q):=by rw[BV]
  have ny:(C7 σ s λ_=>(q,st.own.j6 q)) k2=σ k2:=CK _ (λe=>hk e.symm);simp only[hn,ny]at h2;rw[ho]at h2;refine RX.hid (λk=>?_) h2;simp only[e8];cases za k s<;>rfl
theorem RX.Kj(h:RX σ tm M st){s key k2 ky s' s2 z:Nat}{rows:List (p_)}{es:v_}(e:e8 M key=some (s',.mx rows))(e2:e8 M k2=some (s2,.rw z es))(hk:key≠k2)(hm:IB s M=false)(ht:JU s tm=false) :
  RX (C7 σ s λt=>match t with|0=>(s',st.own.j6 s')|i+1=>if i=rows.length then σ k2 0 else σ key (i+1)) tm ((s,s',.mx (rows++[some (z,es)]))::u9 key (u9 k2 (u9 ky M)))
   ⟨st.tm,st.own.put s' (((st.own s').q9 (σ key 0).2 none).new ⟨1,CE σ key 0 rows++[[.row (σ k2 0).1 (σ k2 0).2 z 0 es.length]]⟩)⟩:=by
 have hs:=h.sat.site _ _ _ e;subst hs;have r0:=EA e;have r2:=EA e2;generalize hF:(λt=>match t with|0=>((σ key 0).1,st.own.j6 (σ key 0).1)|i+1=>if i=rows.length then σ k2 0 else σ key (i+1):Nat->Nat×Nat)=F;have F0:F 0=((σ key 0).1,st.own.j6 (σ key 0).1):=by rw[<-hF]
 have F1:∀i,F (i+1)=if i=rows.length then σ k2 0 else σ key (i+1):=by intro i;rw[<-hF]
 have km:CE (C7 σ s F) s 0 (rows++[some (z,es)])=CE σ key 0 rows++[[.row (σ k2 0).1 (σ k2 0).2 z 0 es.length]]:=by
  apply Aa;intro j;rw[IP,BV];rcases Ob j rows.length with hj|hj|hj
  ·rw[Ga hj,Ga (by rw[G2];exact hj),IP]
   congr 1;funext r
   cases r with
   |none=>rfl
   |some x=>simp only[ub];rw[F1,if_neg O']
  ·subst hj
   rw[Ja (oa _),Ja (by rw[G2];exact oa _),G2];simp[F1]
  ·rw[Ca K',Ca (by simp[G2];omega)];rfl
 have Ch:∀j t c',c8 M j t=some c'->JT s c'=false/\j≠s:=by
  intro j t c' g;obtain⟨s1,c0,g1,g2,g3⟩:=JB g;obtain⟨g4,g5⟩:=WP hm _ _ _ g1;refine⟨?_,g4⟩;cases t with
  |zero=>rw[g2 rfl];exact g5
  |succ i=>obtain⟨rows,z,es,_,_,rfl⟩:=g3 i rfl;rfl
 have hg:∀j t c,c8 ((s,(σ key 0).1,.mx (rows++[some (z,es)]))::u9 key (u9 k2 (u9 ky M))) j t=some c ->
   (j=s/\t=0/\c = .mx (rows++[some (z,es)]))\/(j=s/\t=rows.length+1/\c = .rw z es)\/(j=s/\t≠0/\t≠rows.length+1/\c8 M key t=some c)\/(j≠s/\j≠key/\j≠k2/\c8 M j t=some c):=by
  intro j t c g;by_cases hj:j=s
  ·subst hj
   cases t with
   |zero=>rw[YP]at g;exact Or.inl ⟨rfl,rfl,(ua g).symm⟩
   |succ t=>
    simp only[c8,e8,fb,cond_true]at g;rcases Ob t rows.length with nb|nb|nb
    ·rw[Ga nb]at g
     refine Or.inr (Or.inr (Or.inl ⟨rfl,O',O',?_⟩));simp only[c8,e];exact g
    ·subst nb
     rw[Ja (oa _),gd]at g;exact Or.inr (Or.inl ⟨rfl,rfl,(ua g).symm⟩)
    ·rw[Ca K']at g;cases g
  ·rw[Q8 hj]at g
   obtain⟨g1,g2⟩:=NX g;obtain⟨g3,g4⟩:=NX g2;obtain⟨_,g5⟩:=NX g4;exact Or.inr (Or.inr (Or.inr ⟨hj,g1,g3,g5⟩))
 refine⟨λj=>?_,⟨?_,?_,?_,?_,?_⟩⟩
 ·rw[jX (Y0 ht j)];exact h.tm j
 ·intro j s1 c g
  simp only[e8]at g;cases hb:za j s<;>simp only[hb,cond_true,cond_false]at g
  ·rw[CK _ (FR.1 hb)];exact h.sat.site _ _ _ (OP (OP (OP g).2).2).2
  ·simp only[ya,ga]at g
   rw[BL.1 hb,BV,F0,<-g.1]
 ·intro j t c g
  rcases hg j t c g with⟨rfl,rfl,rfl⟩|⟨rfl,rfl,rfl⟩|⟨rfl,h0,h1,g2⟩|⟨h0,h1,h2,g2⟩
  ·rw[BV,F0]
   simp only[BA.c9,km];simp[Own.k9,BZ.new,Own.j6,BZ.q9]
  ·rw[BV,F1,if_pos rfl]
   exact(V8 (λhe=>hk (h.sat.inj _ _ _ _ _ _ r2 r0 he).1.symm) (h.sat.old _ _ _ r2)).trans (h.sat.c9 _ _ _ r2)
  ·obtain⟨t',rfl⟩:∃t',t=t'+1:=⟨t-1,O'⟩
   rw[BV,F1,if_neg O'];have hb:c.c9 (C7 σ j F) j=c.c9 σ key:=by
    obtain⟨_,_,_,_,g3⟩:=JB g2;obtain⟨_,_,_,_,_,rfl⟩:=g3 t' rfl;rfl
   rw[hb];exact(V8 (λhe=>absurd (h.sat.inj _ _ _ _ _ _ g2 r0 he).2 O') (h.sat.old _ _ _ g2)).trans (h.sat.c9 _ _ _ g2)
  ·rw[CK _ h0,dU (Ch _ _ _ g2).1 h0]
   exact(V8 (λhe=>h1 (h.sat.inj _ _ _ _ _ _ g2 r0 he).1) (h.sat.old _ _ _ g2)).trans (h.sat.c9 _ _ _ g2)
 ·intro j t c g
  rcases hg j t c g with⟨rfl,rfl,rfl⟩|⟨rfl,rfl,rfl⟩|⟨rfl,h0,h1,g2⟩|⟨h0,h1,h2,g2⟩
  ·rw[BV,F0]
   simp[Own.k9,BZ.new,Own.j6,BZ.q9]
  ·rw[BV,F1,if_pos rfl]
   exact Fa (h.sat.old _ _ _ r2) (V9 _)
  ·obtain⟨t',rfl⟩:∃t',t=t'+1:=⟨t-1,O'⟩
   rw[BV,F1,if_neg O'];exact Fa (h.sat.old _ _ _ g2) (V9 _)
  ·rw[CK _ h0]
   exact Fa (h.sat.old _ _ _ g2) (V9 _)
 ·have hold:∀j t c,c8 ((s,(σ key 0).1,.mx (rows++[some (z,es)]))::u9 key (u9 k2 (u9 ky M))) j t=some c->(j=s/\t=0)\/∃j0 t0 c0,c8 M j0 t0=some c0/\C7 σ s F j t=σ j0 t0/\((j0=k2/\t0=0/\j=s/\t=rows.length+1)\/(j0=key/\t0=t/\j=s)\/(j0=j/\t0=t/\j≠key/\j≠k2)):=by
   intro j t c g;rcases hg j t c g with⟨rfl,rfl,rfl⟩|⟨rfl,rfl,rfl⟩|⟨rfl,h0,h1,g2⟩|⟨h0,h1,h2,g2⟩
   ·exact Or.inl ⟨rfl,rfl⟩
   ·exact Or.inr ⟨_,_,_,r2,by rw[BV,F1,if_pos rfl],Or.inl ⟨rfl,rfl,rfl,rfl⟩⟩
   ·obtain⟨t',rfl⟩:∃t',t=t'+1:=⟨t-1,O'⟩
    exact Or.inr ⟨_,_,_,g2,by rw[BV,F1,if_neg O'],Or.inr (Or.inl ⟨rfl,rfl,rfl⟩)⟩
   ·exact Or.inr ⟨_,_,_,g2,by rw[CK _ h0],Or.inr (Or.inr ⟨rfl,rfl,h1,h2⟩)⟩
  have oh:∀j0 t0 c0,c8 M j0 t0=some c0->C7 σ s F s 0≠σ j0 t0:=by
   intro j0 t0 c0 g he;rw[BV,F0]at he;have:=h.sat.old _ _ _ g
   rw[<-he]at this;exact absurd this (Db _)
  intro j t j' t' c c' g g' hj;rcases hold j t c g with⟨rfl,rfl⟩|⟨j0,t0,c0,a1,a2,a3⟩<;>rcases hold j' t' c' g' with⟨rfl,rfl⟩|⟨j1,t1,c1,b1,b2,b3⟩
  ·exact⟨rfl,rfl⟩
  ·rw[b2]at hj;exact absurd hj (oh _ _ _ b1)
  ·rw[a2]at hj;exact absurd hj.symm (oh _ _ _ a1)
  ·rw[a2,b2]at hj
   obtain⟨q1,q2⟩:=h.sat.inj _ _ _ _ _ _ a1 b1 hj;rcases a3 with⟨x1,x2,x3,x4⟩|⟨x1,x2,x3⟩|⟨x1,x2,x3,x4⟩<;>rcases b3 with⟨y1,y2,y3,y4⟩|⟨y1,y2,y3⟩|⟨y1,y2,y3,y4⟩
   ·exact⟨x3.trans y3.symm,x4.trans y4.symm⟩
   ·exact absurd (y1.symm.trans (q1.symm.trans x1)) hk
   ·exact absurd (y1.symm.trans (q1.symm.trans x1)) y4
   ·exact absurd (x1.symm.trans (q1.trans y1)) hk
   ·exact⟨x3.trans y3.symm,x2.symm.trans (q2.trans y2)⟩
   ·exact absurd (y1.symm.trans (q1.symm.trans x1)) y3
   ·exact absurd (x1.symm.trans (q1.trans y1)) x4
   ·exact absurd (x1.symm.trans (q1.trans y1)) x3
   ·exact⟨x1.symm.trans (q1.trans y1),x2.symm.trans (q2.trans y2)⟩
 ·intro j t c g hw
  rcases hg j t c g with⟨rfl,rfl,rfl⟩|⟨rfl,rfl,rfl⟩|⟨rfl,h0,h1,g2⟩|⟨h0,h1,h2,g2⟩
  ·rw[BV,F0];exact h.sat.low _ _ _ r0 rfl
  ·rw[BV,F1,if_pos rfl];exact h.sat.low _ _ _ r2 rfl
  ·obtain⟨t',rfl⟩:∃t',t=t'+1:=⟨t-1,O'⟩
   rw[BV,F1,if_neg O'];exact h.sat.low _ _ _ g2 hw
  ·rw[CK _ h0];exact h.sat.low _ _ _ g2 hw
theorem IR(k:IntKind)(n:Int):BB σ (.int k n) = .int k n:=rfl
theorem IQ(b:Bool):BB σ (.bool b) = .bool b:=rfl
theorem IC(l:Bool)(es:v_):BB σ (.sl l es) = .sl l es:=rfl
theorem DH(k t z o n:Nat):BB σ (.row k t z o n) = .row (σ k t).1 (σ k t).2 z o n:=rfl
theorem EZ(k t i j:Nat):BB σ (.ptr k t i j) = .ptr (σ k t).1 (σ k t).2 i j:=rfl
theorem rJ(k t:Nat):BB σ (.mp k t) = .mp (σ k t).1 (σ k t).2:=rfl
theorem LC(cs:w_):BB σ (.x9 cs) = .x9 cs:=rfl
theorem GI:BB σ .nil = .nil:=rfl
theorem KC(cs:w_):BB σ (.agg cs) = .agg (cs.map (A7 σ)):=rfl
theorem rI(v:Value):BB σ (.x7 v) = .x7 v:=rfl
theorem cB(p:Bool)(f g:Nat)(cs:w_):BB σ (.fn p f g cs) = .fn p f g (cs.map (A7 σ)):=rfl
theorem KD(cs:w_):BB σ (.j4 cs) = .j4 (cs.map (BK σ)):=rfl
def B3.res(own:Own):B3->AV×Own
 |.val v=>(v,own)
 |.new s b f=>(f (own.j6 s),own.put s ((own s).new b))
 |.zj s b f=>(f (own.j6 s),own.put s ((own s).new b))
 |.bz v o=>(v,o)
 |.Au s v o=>(v,o.put s (own s))
 |.q9 s x=>(.j4 [],own.put s x)
 |.rp s x v=>(v,own.put s x)
theorem kZ(st:St)(d:Option Nat)(E:B3):st.app d E=⟨(st.dst d (E.res st.own).1).tm,(E.res st.own).2⟩:=by
 cases E<;>cases d<;>rfl
def BO(L:Lib)(tm:Tm)(b9:u_)(K:AV->Mem->Prop)(op:DU)(st:St):Prop :=
 ∃E σ' v M',(∀c,e9 (CN L c) b9 st.ev st.own op=some E)/\K v M'/\(E.res st.own).1=BB σ' v/\RX σ' tm M' ⟨st.tm,(E.res st.own).2⟩
theorem BO.val{L:Lib}{b9:u_}{K:AV->Mem->Prop}{op:DU}(h:RX σ tm M st)(v:AV)(he:∀c,e9 (CN L c) b9 st.ev st.own op=some (.val (BB σ v)))(hk:K v M):BO L tm b9 K op st :=
 ⟨_,σ,v,M,he,hk,rfl,h⟩
variable {L:Lib} {b9:u_} {K:AV->Mem->Prop}
theorem AfP{x:AL}(hr:RX σ tm M st)(h:XE L tm M b9 K (.o9 x)):BO L tm b9 K (.o9 x) st:=by
 simp only[XE]at h;obtain⟨h1,h2⟩:=fZ h;exact BO.val hr _ (λC=>by simp only[e9,hr.ev rfl h1]) h2
theorem AfY{s z:Nat}(hr:RX σ tm M st)(h:XE L tm M b9 K (.z8 s z)):BO L tm b9 K (.z8 s z) st:=by
 simp only[XE]at h;cases eo:E2 s<;>simp only[eo,cond_true,cond_false]at h;obtain⟨k,h1,h2,h3⟩:=IY h;refine⟨_,_,_,_,λC=>rfl,h3,?_,hr.gy h1 h2 (.rw z []) trivial rfl (λ_=>eo)⟩;simp only[B3.res,DH,EZ,BV]
theorem AfS{c a b:AL}(hr:RX σ tm M st)(h:XE L tm M b9 K (.pick c a b)):BO L tm b9 K (.pick c a b) st:=by
 simp only[XE]at h;split at h
 ·rename_i e
  obtain⟨h1,h2⟩:=fZ h;exact BO.val hr _ (λC=>by simp only[e9,hr.ev e G',hr.ev rfl h1,IR,IQ,IC,DH,EZ,LC,GI,KC,KD]) h2
 ·rename_i e
  obtain⟨h1,h2⟩:=fZ h;exact BO.val hr _ (λC=>by simp only[e9,hr.ev e G',hr.ev rfl h1,IR,IQ,IC,DH,EZ,LC,GI,KC,KD]) h2
 ·exact h.elim
theorem AkF{op:BinOp}{k k':IntKind}{a b:Int}{v:AV}(h:C5 op k a k' b=some v):BB σ v=v:=by
 cases op<;>simp only[C5]at h<;>split at h<;>first|(obtain rfl:=ua h;rfl)|cases h
theorem Alg{k k':IntKind}(h:kq k k'=true):k=k':=by simpa [kq]using h
theorem Agk{op:BinOp}{k k':IntKind}{a b:Int}{K:AV->Prop}(h:lB op k a k' b K):∃v,C5 op k a k' b=some v/\K v:=by
 have key:∀(p q:Prop)[Decidable p](A B:Prop)(c:Bool),(¬p->q)->AF p q A B->(p/\A)\/(¬p/\B):=by
  intro p q _ A B _ hq hc;by_cases hp:p
  ·exact Or.inl ⟨hp,hc.1 hp⟩
  ·exact Or.inr ⟨hp,hc.2 (hq hp)⟩
 cases op;all_goals try (exact h)
 all_goals (
  simp only[lB]at h;cases hk:kq k k'<;>simp only[hk,cond_true,cond_false]at h;obtain rfl:=Alg hk;simp only[C5,if_true])
 ·rcases key (a=b) _ _ _ true (λe=>e) h with⟨h1,h2⟩|⟨h1,h2⟩
  ·exact⟨_,rfl,by rw[show(a == b)=true by simpa using h1];exact h2⟩
  ·exact⟨_,rfl,by rw[show(a == b)=false by simpa using h1];exact h2⟩
 ·rcases key (a≠b) _ _ _ true (λe=>O') h with⟨h1,h2⟩|⟨h1,h2⟩
  ·exact⟨_,rfl,by rw[show(a != b)=true by simpa using h1];exact h2⟩
  ·exact⟨_,rfl,by rw[show(a != b)=false by simpa using h1];exact h2⟩
 ·rcases key (a<b) _ _ _ true (λe=>O') h with⟨h1,h2⟩|⟨h1,h2⟩
  ·exact⟨_,rfl,by simpa [h1]using h2⟩
  ·exact⟨_,rfl,by simpa [h1]using h2⟩
 ·rcases key (a<=b) _ _ _ true (λe=>O') h with⟨h1,h2⟩|⟨h1,h2⟩
  ·exact⟨_,rfl,by simpa [h1]using h2⟩
  ·exact⟨_,rfl,by simpa [h1]using h2⟩
 ·rcases key (b<a) _ _ _ true (λe=>O') h with⟨h1,h2⟩|⟨h1,h2⟩
  ·exact⟨_,rfl,by simpa [h1]using h2⟩
  ·exact⟨_,rfl,by simpa [h1]using h2⟩
 ·rcases key (b<=a) _ _ _ true (λe=>O') h with⟨h1,h2⟩|⟨h1,h2⟩
  ·exact⟨_,rfl,by simpa [h1]using h2⟩
  ·exact⟨_,rfl,by simpa [h1]using h2⟩
theorem Afw{op:BinOp}{x y:AL}(hr:RX σ tm M st)(h:XE L tm M b9 K (.bin op x y)):BO L tm b9 K (.bin op x y) st:=by
 simp only[XE]at h;split at h
 ·rename_i k a k' b e1 e2
  obtain⟨v,hv,hk⟩:=Agk h;exact BO.val hr v (λC=>by
   simp only[e9,hr.ev e1 G',hr.ev e2 G',IR,IQ,IC,DH,EZ,LC,GI,KC,KD,hv,sa];exact congrArg some (congrArg B3.val (AkF (σ:=σ) hv).symm)) hk
 ·exact h.elim
theorem Afv{ne:Bool}{x y:AL}(hr:RX σ tm M st)(h:XE L tm M b9 K (.beq ne x y)):BO L tm b9 K (.beq ne x y) st:=by
 simp only[XE]at h;split at h
 ·rename_i a b e1 e2
  rw[R5]at h;exact BO.val hr _ (λC=>by
   simp only[e9,hr.ev e1 G',hr.ev e2 G',IR,IQ,IC,DH,EZ,LC,GI,KC,KD];cases ne<;>rfl) h
 ·exact h.elim
theorem AfX{op:UnOp}{x:AL}(hr:RX σ tm M st)(h:XE L tm M b9 K (.un op x)):BO L tm b9 K (.un op x) st:=by
 simp only[XE]at h;split at h
 ·rename_i k n e1
  obtain⟨v,hv,hk⟩:=h;refine BO.val hr v (λC=>?_) hk;simp only[e9,hr.ev e1 G',IR,IQ,IC,DH,EZ,LC,GI,KC,KD,hv,sa];cases op<;>simp only[UU,ya,reduceCtorEq]at hv<;>subst hv<;>rfl
 ·rename_i b e1
  split at h
  ·rw[R5]at h
   exact BO.val hr _ (λC=>by simp only[e9,hr.ev e1 G',IR,IQ,IC,DH,EZ,LC,GI,KC,KD,UU,sa]) h
  ·exact h.elim
 ·exact h.elim
theorem AfA{k:IntKind}{x:AL}(hr:RX σ tm M st)(h:XE L tm M b9 K (.conv k x)):BO L tm b9 K (.conv k x) st:=by
 simp only[XE]at h;split at h
 ·rename_i k' n e1
  exact BO.val hr _ (λC=>by simp only[e9,hr.ev e1 G',IR,IQ,IC,DH,EZ,LC,GI,KC,KD]) h.h
 ·exact h.elim
theorem Afx{s:Nat}{x:AL}(hr:RX σ tm M st)(h:XE L tm M b9 K (.box s x)):BO L tm b9 K (.box s x) st:=by
 simp only[XE]at h;obtain⟨h0,cs,hc,h⟩:=fY h;obtain⟨k,h1,h2,h3⟩:=IY h;refine⟨.new s (BA.c9 σ k (.bx cs)) (λt=>.ptr s t 0 0),_,_,_,λC=>?_,h3,?_,hr.gy h1 h2 (.bx cs) trivial (Xd (Rf h2 x) hc) (λh=>nomatch h)⟩
 ·simp only[e9,hr.ev rfl h0,RT hc,Ha,BA.c9]
 ·simp only[B3.res,DH,EZ,BV]
theorem Afq{s:Nat}{z:w_}(hr:RX σ tm M st)(h:XE L tm M b9 K (.alloc s z)):BO L tm b9 K (.alloc s z) st:=by
 simp only[XE]at h;cases hd:EM z<;>simp only[hd,cond_true,cond_false]at h;obtain⟨k,h1,h2,h3⟩:=IY h;refine⟨.new s (BA.c9 σ k (.bx z)) (λt=>.ptr s t 0 0),_,_,_,λC=>?_,h3,?_,hr.gy h1 h2 (.bx z) trivial (lT hd) (λh=>nomatch h)⟩
 ·simp only[e9,BA.c9,KQ hd]
 ·simp only[B3.res,DH,EZ,BV]
theorem iR{cs ds:w_}{off n:Nat}(h:part cs off n=some ds):part (cs.map (A7 σ)) off n=some (ds.map (A7 σ)):=by
 simp only[part]at h⊢;split at h
 ·rename_i hl
  rw[if_pos (by simpa using hl)];obtain rfl:=ua h;rw[ud,pd]
 ·cases h
theorem Ri{v:AV}{K:AV->Prop}(h:fF v K):v ≠ .any/\BB σ v=A7 σ v/\K v:=by
 cases v<;>simp only[fF]at h<;>first|exact h.elim|exact⟨G',rfl,h⟩
theorem S8(σ:F5){agg:Bool}{ds:w_}{K:AV->Prop}(h:rk agg ds K):∃v,M4 agg (ds.map (A7 σ))=some (BB σ v)/\K v:=by
 cases agg
 ·simp only[rk]at h
  split at h
  ·rename_i c
   obtain⟨_,h1,h2⟩:=Ri (σ:=σ) h;exact⟨c,by rw[h1];rfl,h2⟩
  ·exact h.elim
 ·exact⟨.agg ds,rfl,h⟩
theorem Yv{cs vs:w_}{j:Nat}:(splice cs j vs).map (A7 σ)=splice (cs.map (A7 σ)) j (vs.map (A7 σ)):=by
 simp only[splice,Dc,ud,pd,Ha]
theorem Rn(hr:RX σ tm M st):∀{ps:List (Nat×Nat×AL)}{cells:w_}{K:w_->Prop},nN tm ps cells K->∃cs,fill (cells.map (A7 σ)) (ps.map λp=>(p.1,p.2.1,st.ev p.2.2))=some (cs.map (A7 σ))/\K cs
 |[],cells,K,h=>⟨cells,rfl,h⟩
 |p::r,cells,K,h=>by
  obtain⟨h0,vs,hc,h⟩:=fY (show fC (ex tm p.2.2) λvs=>bif za vs.length p.2.1 then bif Mb (p.1+p.2.1) cells.length then fL (splice cells p.1 vs) λcells=>nN tm r cells K else False else False from h);cases hz:za vs.length p.2.1<;>simp only[hz,cond_true,cond_false]at h;have hl:Mb (p.1+p.2.1) cells.length=true:=by
   cases hl:Mb (p.1+p.2.1) cells.length
   ·rw[hl]at h;exact h.elim
   ·rfl
  rw[hl]at h;simp only[cond_true,I7]at h;obtain⟨cs,h1,h2⟩:=Rn hr h;refine⟨cs,?_,h2⟩;simp only[va,fill,hr.ev rfl h0,RT hc,Ha];rw[if_pos ⟨BL.1 hz,Fb hl⟩,<-Yv];exact h1
theorem Afz{z:w_}{ps:List (Nat×Nat×AL)}(hr:RX σ tm M st)(h:XE L tm M b9 K (.build z ps)):BO L tm b9 K (.build z ps) st:=by
 simp only[XE]at h;cases hd:EM z<;>simp only[hd,cond_true,cond_false]at h;obtain⟨cs,h1,h2⟩:=Rn hr h;refine BO.val hr (.agg cs) (λC=>?_) h2;rw[KQ hd]at h1;simp only[e9,h1];rfl
theorem Rb:∀l:List AL,R4 tm l=l.map (ex tm)
 |[]=>rfl
 |x::r=>by rw[R4,Rb r];rfl
theorem lS:∀{es:v_},VU es=true->∀e∈es,EM e=true
 |e0::r,h,e,he=>by
  simp only[VU]at h;cases h1:EM e0<;>simp only[h1,cond_true,cond_false]at h
  ·cases h
  ·rcases Ba.1 he with rfl|he
   ·exact h1
   ·exact lS h e he
theorem wH{es:v_}(h:∀e∈es,EM e=true):(es.map λcs=>cs.map (A7 σ))=es:=by
 conv=>rhs;rw[<-cd es]
 exact Oa λe he=>KQ (h e he)
theorem Alu{es:v_}{K:Nat->Prop}(h:pB es K):K es.length:=by
 unfold pB at h;split at h<;>exact h
theorem lF(hr:RX σ tm M st){z:Nat}:∀{l:List AL}{K:v_->Prop},dV tm z l K->∃es,l.mapM (λx=>cellsOf (st.ev x))=some (es.map λcs=>cs.map (A7 σ))/\(∀e∈es,e.length=z)/\(∀k,JU k tm=false->UP k es=false)/\K es
 |[],K,h=>⟨[],rfl,(λe he=>by cases he),λ_ _=>rfl,h⟩
 |x::r,K,h=>by
  obtain⟨h0,cs,hc,h⟩:=fY (show fC (ex tm x) λcs=>bif za cs.length z then dV tm z r λes=>K (cs::es)else False from h);cases hz:za cs.length z<;>simp only[hz,cond_true,cond_false]at h;obtain⟨es,h1,h2,h4,h3⟩:=lF hr h;refine⟨cs::es,?_,λe he=>?_,λk hk=>?_,h3⟩
  ·rw[qa,h1,hr.ev rfl h0,RT hc];rfl
  ·rcases Ba.1 he with rfl|he
   ·exact BL.1 hz
   ·exact h2 e he
  ·simp only[UP,Xd (Rf hk x) hc,cond_false,h4 k hk]
theorem evL(hr:RX σ tm M st){xs:List AL}(h:∀v∈R4 tm xs,v ≠ .any):xs.map st.ev=(R4 tm xs).map (BB σ):=by
 rw[Rb]at h⊢;rw[vb];exact Oa λx hx=>hr.ev rfl (h _ (List.mem_map_of_mem hx))
theorem Afy{s z:Nat}{ps:List AL}(hr:RX σ tm M st)(h:XE L tm M b9 K (.b8 s z ps)):BO L tm b9 K (.b8 s z ps) st:=by
 simp only[XE]at h;cases eo:E2 s<;>simp only[eo,cond_true,cond_false]at h;obtain⟨es,g1,g2,g3,h⟩:=lF hr h;obtain⟨k,h1,h2,h3⟩:=IY (Alu h);have key:∀c:BA,c.flat->JT k c=false->c.c9 σ k=⟨z,es.map λcs=>cs.map (A7 σ)⟩->K (.row k 0 z 0 es.length) ((k,s,c)::M)->BO L tm b9 K (.b8 s z ps) st:=by
  intro c hf hc hb hk;refine⟨.new s (c.c9 σ k) (λt=>.row s t z 0 es.length),_,_,_,λC=>?_,hk,?_,hr.gy h1 h2 c hf hc (λ_=>eo)⟩
  ·simp only[e9,g1,hb]
   rw[if_pos (λe he=>by obtain⟨e',im,rfl⟩:=List.mem_map.1 he;simpa using g2 e' im)];simp only[Ha]
  ·simp only[B3.res,DH,BV]
 cases hd:VU es<;>simp only[hd,cond_true,cond_false]at h3
 ·exact key (.bs z es) trivial (g3 k h2) rfl h3
 ·exact key (.rw z es) trivial rfl (by simp only[BA.c9];rw[wH (lS hd)]) h3
theorem AfJ{z:Nat}{ps:List AL}(hr:RX σ tm M st)(h:XE L tm M b9 K (.lit z ps)):BO L tm b9 K (.lit z ps) st:=by
 simp only[XE]at h;obtain⟨es,g1,g2,g3,h⟩:=lF hr h;cases hd:(VU es&&es.all λe=>e.all YK)<;>simp only[hd,cond_true,cond_false]at h;rw[Pa]at hd;rw[wH (lS hd.1)]at g1;exact BO.val hr (.sl false es) (λC=>by
  simp only[e9,g1,IC];rw[if_pos λe he=>⟨g2 e he,λc hc=>Jb.1 (Jb.1 hd.2 e he) c hc⟩]) h
theorem AfC{x:AL}{off:Nat}(hr:RX σ tm M st)(h:XE L tm M b9 K (.l8 x off)):BO L tm b9 K (.l8 x off) st:=by
 simp only[XE]at h;split at h
 ·rename_i key t i j e
  exact BO.val hr _ (λC=>by simp only[e9,hr.ev e G',IR,IQ,IC,DH,EZ,LC,GI,KC,KD]) h
 ·rename_i cs e
  rw[I7]at h;exact BO.val hr _ (λC=>by simp only[e9,hr.ev e G',IR,IQ,IC,DH,EZ,LC,GI,KC,KD]) h
 ·exact h.elim
theorem AfD{x:AL}{off n:Nat}{agg:Bool}(hr:RX σ tm M st)(h:XE L tm M b9 K (.nj x off n agg)):BO L tm b9 K (.nj x off n agg) st:=by
 simp only[XE]at h;split at h
 ·rename_i cs e
  split at h
  ·rename_i ds hp
   rw[I7]at h;obtain⟨v,h1,h2⟩:=S8 σ h;exact BO.val hr v (λC=>by simp only[e9,hr.ev e G',KC,iR hp,h1,sa]) h2
  ·exact h.elim
 ·exact h.elim
theorem AfF{arr:Option Nat}{z:Nat}{x i:AL}(hr:RX σ tm M st)(h:XE L tm M b9 K (.q8 arr z x i)):BO L tm b9 K (.q8 arr z x i) st:=by
 simp only[XE]at h;split at h
 ·rename_i kd n e1
  split at h
  ·rename_i len key t i' j e2
   obtain⟨h1,h2⟩:=h;exact BO.val hr _ (λC=>by simp only[e9,hr.ev e1 G',hr.ev e2 G',IR,IQ,IC,DH,EZ,LC,GI,KC,KD];rw[if_pos h1]) h2
  ·rename_i len cs e2
   obtain⟨h1,h2⟩:=h;rw[I7]at h2;exact BO.val hr _ (λC=>by simp only[e9,hr.ev e1 G',hr.ev e2 G',IR,IQ,IC,DH,EZ,LC,GI,KC,KD];rw[if_pos h1]) h2
  ·rename_i key t z' off len e2
   cases hz:za z' z<;>simp only[hz,cond_true,cond_false]at h;obtain⟨h1,h2⟩:=h;exact BO.val hr _ (λC=>by simp only[e9,hr.ev e1 G',hr.ev e2 G',IR,IQ,IC,DH,EZ,LC,GI,KC,KD];rw[if_pos ⟨h1.1,h1.2,BL.1 hz⟩]) h2
  ·rename_i q es e2
   obtain⟨h1,cs,h2,h3,h4⟩:=h;exact BO.val hr _ (λC=>by simp only[e9,hr.ev e1 G',hr.ev e2 G',IR,IQ,IC,DH,EZ,LC,GI,KC,KD,h2];rw[if_pos h1,if_pos h3]) h4
  ·exact h.elim
 ·exact h.elim
theorem WG{s:Nat}{own:Own}:∀{b9:u_},OZ s b9=true->own.s9 b9 s=own s
 |[],_=>rfl
 |b::r,h=>by
  have hm:K0 s (b::r)=false:=by simpa [OZ]using h
  have:∀l:u_,K0 s l=false->own.s9 l s=own s:=by
   intro l;induction l with
   |nil=>intro _;rfl
   |cons b r ih=>
    intro h;simp only[K0]at h;cases hb:za s b<;>simp only[hb,cond_true,cond_false]at h
    ·simp only[Own.s9]
     rw[if_neg (FR.1 hb)];exact ih h
    ·cases h
  exact this _ hm
theorem qC{s:Nat}{own:Own}(hs:E2 s=true):∀{b9:u_},WH b9=true->own.s9 b9 s=own s
 |[],_=>rfl
 |b::r,h=>by
  simp only[WH]at h;cases hb:E2 b<;>simp only[hb,cond_true,cond_false]at h
  ·have o7:s≠b:=λe=>by rw[e,hb]at hs;cases hs
   show(if s=b then _ else own.s9 r s)=own s;rw[if_neg o7];exact qC hs h
  ·cases h
theorem AfH{agg:Bool}{n:Nat}{x:AL}(hr:RX σ tm M st)(h:XE L tm M b9 K (.ld agg n x)):BO L tm b9 K (.ld agg n x) st:=by
 simp only[XE]at h;split at h
 ·rename_i key t i j e
  split at h
  ·rename_i s c hm
   have hs:=hr.sat.site _ _ _ hm;split at h
   ·cases hb:OZ s b9<;>simp only[hb,cond_true,cond_false]at h
    have y9:=hr.sat.c9 _ _ _ (EA hm);rw[hs]at y9;split at h
    ·rename_i cs
     cases hi:za i 0<;>simp only[hi,cond_true,cond_false]at h;obtain rfl:=BL.1 hi;split at h
     ·rename_i ds hp
      rw[I7]at h;obtain⟨v,h1,h2⟩:=S8 σ h;exact BO.val hr v (λC=>by
       simp only[e9,hr.ev e G',EZ,Own.qk,Own.get,hs];rw[WG hb,y9];simp only[BA.c9,Lb,iR hp,h1,sa]) h2
     ·exact h.elim
    ·rename_i z es
     obtain⟨cs,ds,g1,g2,h⟩:=h;rw[I7]at h;cases hd:EM ds<;>simp only[hd,cond_true,cond_false]at h;obtain⟨v,h1,h2⟩:=S8 σ h;rw[KQ hd]at h1;exact BO.val hr v (λC=>by
      simp only[e9,hr.ev e G',EZ,Own.qk,Own.get,hs];rw[WG hb,y9];simp only[BA.c9,g1,g2,h1,sa]) h2
    ·rename_i z es
     split at h
     ·rename_i cs g1
      split at h
      ·rename_i ds hp
       rw[I7]at h;obtain⟨v,h1,h2⟩:=S8 σ h;exact BO.val hr v (λC=>by
        simp only[e9,hr.ev e G',EZ,Own.qk,Own.get,hs];rw[WG hb,y9];simp only[BA.c9,Lc,g1,sa,iR hp,h1]) h2
      ·exact h.elim
     ·exact h.elim
    ·rename_i rows
     cases hj:za j 0<;>simp only[hj,cond_true,cond_false]at h;cases hn:za n 1<;>simp only[hn,cond_true,cond_false]at h;obtain rfl:=BL.1 hj;obtain rfl:=BL.1 hn;obtain⟨r,g1,h⟩:=h;have fin:∀c:AV,(CE σ key 0 rows)[i]?=some [A7 σ c]->rk agg [c] (λv=>K v M)->BO L tm b9 K (.ld agg 1 x) st:=by
      intro c hc h;obtain⟨v,h1,h2⟩:=S8 σ h;have hp:part [A7 σ c] 0 1=some [A7 σ c]:=by simp[part]
      exact BO.val hr v (λC=>by
       simp only[e9,hr.ev e G',EZ,Own.qk,Own.get,hs];rw[WG hb,y9];simp only[BA.c9,hc,hp];simp only[va,zb]at h1;simp only[h1,sa]) h2
     split at h
     ·rename_i z es
      exact fin _ (by rw[IP,g1];simp[A7]) h
     ·exact fin _ (by rw[IP,g1];simp[A7]) h
    ·exact h.elim
    ·exact h.elim
   ·rename_i i'
    split at h
    ·rename_i rows
     obtain⟨z,es,g0,cs,ds,g1,g2,h⟩:=h;rw[I7]at h;cases hd:EM ds<;>simp only[hd,cond_true,cond_false]at h;obtain⟨v,h1,h2⟩:=S8 σ h;rw[KQ hd]at h1;have y9:=hr.sat.c9 key (i'+1) (.rw z es) (by simp[c8,hm,g0]);exact BO.val hr v (λC=>by
      simp only[e9,hr.ev e G',EZ,Own.qk,Own.get,Own.s9];rw[y9];simp only[BA.c9,g1,g2,h1,sa]) h2
    ·rename_i rows b r
     cases hb:WH (b::r)<;>simp only[hb,cond_true,cond_false]at h;obtain⟨z,es,g0,cs,ds,g1,g2,h⟩:=h;rw[I7]at h;cases hd:EM ds<;>simp only[hd,cond_true,cond_false]at h;obtain⟨v,h1,h2⟩:=S8 σ h;rw[KQ hd]at h1;have g':c8 M key (i'+1)=some (.rw z es):=by simp[c8,hm,g0]
     have y9:=hr.sat.c9 key (i'+1) (.rw z es) g';have eo:=hr.sat.low key (i'+1) _ g' rfl;exact BO.val hr v (λC=>by
      simp only[e9,hr.ev e G',EZ,Own.qk,Own.get];rw[qC eo hb,y9];simp only[BA.c9,g1,g2,h1,sa]) h2
    ·exact h.elim
  ·exact h.elim
 ·rename_i cs e
  split at h
  ·rename_i ds hp
   rw[I7]at h;cases hd:EM ds<;>simp only[hd,cond_true,cond_false]at h;obtain⟨v,h1,h2⟩:=S8 σ h;rw[KQ hd]at h1;exact BO.val hr v (λC=>by simp only[e9,hr.ev e G',LC,hp,h1,sa]) h2
  ·exact h.elim
 ·exact h.elim
theorem uK{n:Nat}{x v:AL}(hr:RX σ tm M st)(h:XE L tm M b9 K (.st n x v)):BO L tm b9 K (.st n x v) st:=by
 simp only[XE,sH]at h;split at h
 ·rename_i key t i j e
  obtain⟨h0,vs,hc,h5⟩:=fY h;clear h;cases hn:za vs.length n<;>simp only[hn,cond_true,cond_false]at h5;have ve:=BL.1 hn;split at h5
  ·rename_i s c hm
   have hs:=hr.sat.site _ _ _ hm;split at h5
   ·have y9:=hr.sat.c9 _ _ _ (EA hm)
    rw[hs]at y9;split at h5
    ·rename_i cs
     cases hi:za i 0<;>simp only[hi,cond_true,cond_false]at h5;obtain rfl:=BL.1 hi;have hl:Mb (j+vs.length) cs.length=true:=by
      cases hl:Mb (j+vs.length) cs.length
      ·rw[hl]at h5;exact h5.elim
      ·rfl
     rw[hl]at h5;simp only[cond_true,I7]at h5;refine⟨.bz (.j4 []) (st.own.put s ((st.own s).q9 (σ key 0).2 (some (BA.c9 σ key (.bx (splice cs j vs)))))),σ,_,_,λC=>?_,h5,rfl,hr.Ia hm trivial _ trivial (λh=>nomatch h)⟩;simp only[e9,hr.ev e G',EZ,hr.ev rfl h0,RT hc,Ha];rw[if_pos ve];simp only[Own.om,Own.get,hs,y9,BA.c9,Lb,Ha];rw[if_pos (Fb hl)];simp only[sa,List.set_cons_zero,Yv];have:(splice cs j vs).length=cs.length:=by
      have:=Fb hl
      simp only[splice,List.length_append,List.length_take,List.length_drop];omega
     rw[this]
    ·rename_i z es
     cases hd:EM vs<;>simp only[hd,cond_true,cond_false]at h5;obtain⟨cs,g1,g2,h5⟩:=h5;refine⟨.bz (.j4 []) (st.own.put s ((st.own s).q9 (σ key 0).2 (some (BA.c9 σ key (.rw z (es.set i (splice cs j vs))))))),σ,_,_,λC=>?_,h5,rfl,hr.Ia hm trivial _ trivial (λ_=>rfl)⟩;simp only[e9,hr.ev e G',EZ,hr.ev rfl h0,RT hc,KQ hd];rw[if_pos ve];simp only[Own.om,Own.get,hs,y9,BA.c9,g1];rw[if_pos g2];rfl
    ·exact h5.elim
    ·rename_i rows
     split at h5
     ·rename_i cn z m
      cases jm:za key cn<;>simp only[jm,cond_true,cond_false]at h5;cases er:OH key tm<;>simp only[er,cond_true,cond_false]at h5;cases ur:MD key M<;>simp only[ur,cond_true,cond_false]at h5;cases hj:za j 0<;>simp only[hj,cond_true,cond_false]at h5;obtain rfl:=BL.1 hj;split at h5
      ·rename_i s2 z' es iy
       cases hz:za z z'<;>simp only[hz,cond_true,cond_false]at h5;obtain rfl:=BL.1 hz;rw[NS]at h5;obtain⟨rfl,hi,h5⟩:=h5;have hlen:(CE σ key 0 rows)[i]?=some ((CE σ key 0 rows)[i]'(by rw[G2];exact hi)):=zE _;have ko:((CE σ key 0 rows)[i]'(by rw[G2];exact hi)).length=1:=by
        have:=IP (σ:=σ) (k:=key) rows 0 i
        rw[hlen,zE hi]at this;simp only[sa,ya]at this;rw[this];split<;>rfl
       refine⟨.bz (.j4 []) (st.own.put s ((st.own s).q9 (σ key 0).2 (some ⟨1,(CE σ key 0 rows).set i [.row (σ cn 0).1 (σ cn 0).2 z 0 es.length]⟩))),_,_,_,λC=>?_,h5,rfl,hr.Ct hm (Or.inl rfl) iy (FR.1 jm) er ur hi⟩;simp only[e9,hr.ev e G',EZ,hr.ev rfl h0,RT hc,Ha];rw[if_pos ve];simp only[Own.om,Own.get,hs,y9,BA.c9,hlen,va,zb,ob,ib,A7];rw[if_pos O'];simp only[sa];have hsp:splice ((CE σ key 0 rows)[i]'(by rw[G2];exact hi)) 0 [.row (σ cn 0).1 (σ cn 0).2 z 0 es.length]=[.row (σ cn 0).1 (σ cn 0).2 z 0 es.length]:=by
        simp only[splice,List.take_zero,List.nil_append,ob,ib,ub];rw[List.drop_of_length_le O'];rfl
       rw[hsp]
      ·exact h5.elim
     ·exact h5.elim
    ·rename_i i0 v0 rows
     split at h5
     ·rename_i cn z m
      cases jm:za key cn<;>simp only[jm,cond_true,cond_false]at h5;cases er:OH key tm<;>simp only[er,cond_true,cond_false]at h5;cases ur:MD key M<;>simp only[ur,cond_true,cond_false]at h5;cases hj:za j 0<;>simp only[hj,cond_true,cond_false]at h5;obtain rfl:=BL.1 hj;split at h5
      ·rename_i s2 z' es iy
       cases hz:za z z'<;>simp only[hz,cond_true,cond_false]at h5;obtain rfl:=BL.1 hz;rw[NS]at h5;obtain⟨⟨rfl,rfl⟩,hi,h5⟩:=h5;refine⟨.bz (.j4 []) (st.own.put s ((st.own s).q9 (σ key 0).2 (some ⟨1,(CE σ key 0 rows).set i [.row (σ cn 0).1 (σ cn 0).2 z 0 es.length]⟩))),_,_,_,λC=>?_,h5,rfl,hr.Ct hm (Or.inr ⟨v0,rfl⟩) iy (FR.1 jm) er ur hi⟩;simp only[e9,hr.ev e G',EZ,hr.ev rfl h0,RT hc,Ha];rw[if_pos ve];simp only[Own.om,Own.get,hs,y9,BA.c9,Na (show i<(CE σ key 0 rows).length by rw[G2];exact hi),va,zb,ob,ib,A7];rw[if_pos O'];simp only[sa,List.set_set];rfl
      ·exact h5.elim
     ·exact h5.elim
    ·exact h5.elim
   ·rename_i i'
    split at h5
    ·rename_i rows
     cases hd:EM vs<;>simp only[hd,cond_true,cond_false]at h5;obtain⟨z,es,g0,cs,g1,g2,g3,h5⟩:=h5;have y9:=hr.sat.c9 key (i'+1) (.rw z es) (by simp[c8,hm,g0]);refine⟨.bz (.j4 []) (st.own.put (σ key (i'+1)).1 ((st.own (σ key (i'+1)).1).q9 (σ key (i'+1)).2 (some ⟨z,es.set i (splice cs j vs)⟩))),σ,_,_,λC=>?_,h5,rfl,hr.Pm hm g0 g3⟩;simp only[e9,hr.ev e G',EZ,hr.ev rfl h0,RT hc,KQ hd];rw[if_pos ve];simp only[Own.om,Own.get,y9,BA.c9,g1];rw[if_pos g2];rfl
    ·exact h5.elim
  ·exact h5.elim
 ·exact h.elim
theorem AfK{s z bytes:Nat}{zero:w_}{a c:AL}(hr:RX σ tm M st)(h:XE L tm M b9 K (.mk s z bytes zero a c)):BO L tm b9 K (.mk s z bytes zero a c) st:=by
 simp only[XE]at h;split at h
 ·rename_i k1 p k2 q e1 e2
  cases hz:za zero.length z<;>simp only[hz,cond_true,cond_false]at h;cases hd:EM zero<;>simp only[hd,cond_true,cond_false]at h;split at h
  ·cases eo:E2 s<;>simp only[eo,cond_true,cond_false]at h
   obtain⟨⟨g1,g2,g3,g4⟩,h⟩:=h;obtain⟨k,h1,h2,h3⟩:=IY h;have iq:BA.flat (.mx (Da p.toNat none)):=by
    intro i x hx;have:=List.getElem?_replicate (n:=p.toNat) (a:=(none:p_)) (i:=i)
    rw[this]at hx;split at hx<;>cases hx
   have hz1:z=1:=(BL.1 hz).symm;have kb:BA.c9 σ k (.mx (Da p.toNat none))=⟨z,Da p.toNat [.nil]⟩:=by
    simp only[BA.c9,hz1];congr 1;have:∀(n i:Nat),CE σ k i (Da n none)=Da n [AV.nil]:=by
     intro n;induction n with
     |zero=>intro i;rfl
     |succ n ih=>intro i;rw[ec,ec,CE,ih]
    exact this _ _
   refine⟨.new s (BA.c9 σ k (.mx (Da p.toNat none))) (λt=>.row s t z 0 p.toNat),_,_,_,λC=>?_,h3,?_,hr.gy h1 h2 (.mx _) iq rfl (λ_=>eo)⟩
   ·simp only[e9,hr.ev e1 G',hr.ev e2 G',IR,kb]
    rw[if_pos ⟨g1,g2,g3,g4,BL.1 hz⟩]
   ·simp only[B3.res,DH,BV]
  ·cases eo:E2 s<;>simp only[eo,cond_true,cond_false]at h
   obtain⟨⟨g1,g2,g3,g4⟩,h⟩:=h;obtain⟨k,h1,h2,h3⟩:=IY h;refine⟨.new s ⟨z,Da p.toNat zero⟩ (λt=>.row s t z 0 p.toNat),_,_,_,λC=>?_,h3,?_,hr.gy h1 h2 (.rw z _) trivial rfl (λ_=>eo)⟩
   ·simp only[e9,hr.ev e1 G',hr.ev e2 G',IR]
    rw[if_pos ⟨g1,g2,g3,g4,BL.1 hz⟩]
   ·simp only[B3.res,DH,BV]
 ·exact h.elim
theorem Rh{v:AV}{K:AV->Prop}(h:f2 v K):v ≠ .any/\BB σ v=BK σ v/\K v:=by
 cases v<;>simp only[f2,I7]at h<;>first|exact h.elim|exact⟨G',rfl,h⟩
theorem Uh:∀(vs:w_)(i:Nat),yz vs i ≠ .any->vs[i]?=some (yz vs i)
 |[],_,h=>absurd rfl h
 |_::_,0,_=>rfl
 |_::r,i+1,h=>Uh r i h
theorem AfB{x:AL}{i:Nat}(hr:RX σ tm M st)(h:XE L tm M b9 K (.ext x i)):BO L tm b9 K (.ext x i) st:=by
 simp only[XE]at h;split at h
 ·rename_i vs e
  obtain⟨h1,h2,h3⟩:=Rh (σ:=σ) h;refine BO.val hr _ (λC=>?_) h3;simp only[e9,hr.ev e G',KD,Lc,Uh vs i h1,sa,h2]
 ·exact h.elim
theorem AfI{x:AL}(hr:RX σ tm M st)(h:XE L tm M b9 K (.len x)):BO L tm b9 K (.len x) st:=by
 simp only[XE]at h;split at h
 ·rename_i q es e
  exact BO.val hr _ (λC=>by simp only[e9,hr.ev e G',IC,Q4];rfl) h.h
 ·rename_i e
  exact BO.val hr _ (λC=>by simp only[e9,hr.ev e G',GI,Q4];rfl) h
 ·rename_i e
  exact BO.val hr _ (λC=>by simp only[e9,hr.ev e G',DH,Q4];rfl) h
 ·exact h.elim
theorem Tk{mx:Bool}{k:IntKind}{K:AV->Prop}:∀{l:w_}{a:Int},WD mx k K a l->∃n,MS mx (.int k a) l=some (.int k n)/\K (.int k n)/\(∀v∈l,v ≠ .any/\BB σ v=v)
 |[],a,h=>⟨a,rfl,h,λv hv=>by cases hv⟩
 |v::r,a,h=>by
  cases v with
  |int k' b=>
   have h:(bif mx then AF (a<b) (b<=a) (WD mx k K b r) (WD mx k K a r)else AF (b<a) (a<=b) (WD mx k K b r) (WD mx k K a r)):=h;have fin:∀c:Int,Q7 mx (.int k a) (.int k' b)=some (.int k c)->WD mx k K c r->∃n,MS mx (.int k a) (.int k' b::r)=some (.int k n)/\K (.int k n)/\(∀v∈AV.int k' b::r,v ≠ .any/\BB σ v=v):=by
    intro c hc hx;obtain⟨n,h1,h2,h3⟩:=Tk hx;refine⟨n,by simp only[MS,hc,h1],h2,λv hv=>?_⟩;rcases Ba.1 hv with rfl|hv
    ·exact⟨G',rfl⟩
    ·exact h3 v hv
   cases mx
   ·simp only[cond_false]at h
    by_cases hc:b<a
    ·exact fin b (by simp[Q7,hc]) (h.1 hc)
    ·exact fin a (by simp[Q7,hc]) (h.2 O')
   ·simp only[cond_true]at h
    by_cases hc:a<b
    ·exact fin b (by simp[Q7,hc]) (h.1 hc)
    ·exact fin a (by simp[Q7,hc]) (h.2 O')
  |_=>exact(h:False).elim
theorem AfO{mx:Bool}{xs:List AL}(hr:RX σ tm M st)(h:XE L tm M b9 K (.mm mx xs)):BO L tm b9 K (.mm mx xs) st:=by
 simp only[XE]at h;split at h
 ·rename_i k a r e
  obtain⟨n,h1,h2,h3⟩:=Tk (σ:=σ) h;refine BO.val hr (.int k n) (λC=>?_) h2;have hx:∀v∈R4 tm xs,v ≠ .any:=by
   rw[e];intro v hv;rcases Ba.1 hv with rfl|hv
   ·intro e;cases e
   ·exact(h3 v hv).1
  have hm:(R4 tm xs).map (BB σ) = .int k a::r:=by
   rw[e,va];congr 1;conv=>rhs;rw[<-cd r]
   exact Oa λv hv=>(h3 v hv).2
  simp only[e9];rw[show xs.map st.ev = .int k a::r from(evL hr hx).trans hm];simp only[h1,sa,IR]
 ·exact h.elim
theorem Am2(hr:RX σ tm M st){k t:Nat}{K:Nat->v_->Prop}(h:rH M k t K):∃z es,(st.own (σ k t).1).c9 (σ k t).2=some ⟨z,es⟩/\K z es:=by
 unfold rH at h;split at h
 ·rename_i s c hm
  split at h
  ·split at h
   ·exact⟨_,_,hr.sat.c9 _ _ _ (EA hm),h⟩
   ·exact h.elim
  ·rename_i i
   split at h
   ·rename_i rows
    obtain⟨z,es,g,h⟩:=h;exact⟨z,es,hr.sat.c9 k (i+1) (.rw z es) (by simp[c8,hm,g]),h⟩
   ·exact h.elim
 ·exact h.elim
theorem AnI{own o8:Own}{s t i j:Nat}{vs:w_}(h:own.om s t i j vs=some o8):own.put s (o8 s)=o8:=by
 unfold Own.om at h;cases hg:own.get s t with
 |none=>simp[hg]at h
 |some b=>
  simp only[hg]at h;cases he:b.es[i]? with
  |none=>simp[he]at h
  |some cs=>
   simp only[he]at h;split at h
   ·obtain rfl:=ua h
    rw[Own.k9]
   ·cases h
theorem AfW{s n:Nat}{x v:AL}(hr:RX σ tm M st)(h:XE L tm M b9 K (.po s n x v)):BO L tm b9 K (.po s n x v) st:=by
 simp only[XE]at h;split at h
 ·rename_i key i j e1
  split at h
  ·rename_i s' c hm
   cases hb:za s' s<;>simp only[hb,cond_true,cond_false]at h;obtain rfl:=BL.1 hb;have gv:=hr.sat.site _ _ _ hm;obtain⟨E,σ',v',M',h1,h2,h3,h4⟩:=uK (b9:=b9) (L:=L) hr (show XE L tm M b9 K (.st n x v)from h);have cr:=hr.ev e1 G';rw[EZ,gv]at cr;have key:∀vs,cellsOf (st.ev v)=some vs->vs.length=n->∃o',st.own.om s' (σ key 0).2 i j vs=some o'/\E = .bz (.j4 []) o':=λvs gx hn=>by
    have:=h1 0
    simp only[e9,cr,gx]at this;rw[if_pos hn,ka]at this;obtain⟨o',a1,a2⟩:=this;exact⟨o',a1,a2.symm⟩
   cases gx:cellsOf (st.ev v)with
   |none=>have:=h1 0;simp[e9,cr,gx]at this
   |some vs=>
    by_cases hn:vs.length=n
    ·obtain⟨o',a1,rfl⟩:=key vs gx hn
     refine⟨.q9 s' (o' s'),σ',v',M',λC=>?_,h2,h3,?_⟩
     ·simp only[e9,cr,gx]
      rw[if_pos ⟨trivial,hn⟩,a1];rfl
     ·have e2:(B3.res st.own (.q9 s' (o' s'))).2=o':=AnI a1
      rw[e2];exact h4
    ·have:=h1 0
     simp only[e9,cr,gx]at this;rw[if_neg hn]at this;cases this
  ·exact h.elim
 ·exact h.elim
theorem AfG{ne:Bool}{x:AL}(hr:RX σ tm M st)(h:XE L tm M b9 K (.ta ne x)):BO L tm b9 K (.ta ne x) st:=by
 simp only[XE]at h;split at h
 ·rename_i e1
  rw[R5]at h;exact BO.val hr _ (λC=>by simp only[e9,hr.ev e1 G',GI,IQ]) h
 ·rename_i b e1
  rw[R5]at h;exact BO.val hr _ (λC=>by simp only[e9,hr.ev e1 G',rI,IQ]) h
 ·rename_i q es e1
  obtain⟨h0,h⟩:=h;rw[R5]at h;cases es with
  |nil=>exact absurd rfl h0
  |cons e es=>exact BO.val hr _ (λC=>by simp only[e9,hr.ev e1 G',IC,IQ]) h
 ·rename_i s t z o n e1
  obtain⟨h0,h⟩:=h;rw[R5]at h;cases n with
  |zero=>exact absurd h0 O'
  |succ n=>exact BO.val hr _ (λC=>by simp only[e9,hr.ev e1 G',DH,IQ]) h
 ·exact h.elim
theorem AfR{x:AL}(hr:RX σ tm M st)(h:XE L tm M b9 K (.kx x)):BO L tm b9 K (.kx x) st:=by
 simp only[XE]at h;split at h
 ·rename_i key t i j e
  exact BO.val hr _ (λC=>by simp only[e9,hr.ev e G',EZ]) h
 ·exact h.elim
theorem AfT{tb:u_}{x:AL}(hr:RX σ tm M st)(h:XE L tm M b9 K (.ix tb x)):BO L tm b9 K (.ix tb x) st:=by
 simp only[XE]at h;split at h
 ·rename_i k n e1
  obtain⟨h0,v,h1,h2⟩:=h;exact BO.val hr _ (λC=>by simp only[e9,hr.ev e1 G',IR,h1];rw[if_pos h0]) h2
 ·exact h.elim
theorem AjW{v:AV}{K:AV->Prop}(h:fF v K):v ≠ .any/\IA (BB σ v)=some (A7 σ v)/\K v:=by
 cases v<;>first|exact(h:False).elim|exact⟨G',rfl,h⟩
theorem Wg(hr:RX σ tm M st):∀{l:List AL}{K:w_->Prop},pZ tm l K->∃cs,l.mapM (λx=>IA (st.ev x))=some (cs.map (A7 σ))/\K cs
 |[],K,h=>⟨[],rfl,h⟩
 |x::r,K,h=>by
  obtain⟨h0,hc,h⟩:=AjW (σ:=σ) (show fF (ex tm x) λv=>pZ tm r λcs=>K (v::cs)from h);obtain⟨cs,h1,h2⟩:=Wg hr h;refine⟨ex tm x::cs,?_,h2⟩;rw[qa,h1,hr.ev rfl h0,hc];rfl
theorem AfL{p:Bool}{f:Nat}{xs:List AL}(hr:RX σ tm M st)(h:XE L tm M b9 K (.pg p f xs)):BO L tm b9 K (.pg p f xs) st:=by
 simp only[XE]at h;obtain⟨cs,h1,h2⟩:=Wg hr h;exact BO.val hr _ (λC=>by simp only[e9,h1,sa,cB,List.isEmpty_map];rfl) h2
theorem xU(hr:RX σ tm M st){v:AV}{K:v_->Prop}(h:aF M v K):v ≠ .any/\∃es,EX st.own (BB σ v)=some es/\K es:=by
 cases v with
 |sl q es=>exact⟨G',_,rfl,h⟩
 |nil=>exact⟨G',_,rfl,h⟩
 |x7 v=>
  cases v with
  |bool b=>exact⟨G',_,rfl,h⟩
  |_=>exact(h:False).elim
 |row key t z off len=>
  simp only[aF]at h;obtain⟨z',es,g,h⟩:=Am2 hr h;cases hz:za z z'<;>simp only[hz,cond_true,cond_false]at h;obtain rfl:=BL.1 hz;refine⟨G',_,?_,h.2⟩;simp only[DH,EX,Own.get,g];rw[if_pos ⟨h.1,trivial⟩]
 |_=>exact(h:False).elim
theorem qA(hr:RX σ tm M st){o:Option AL}{K:Option Int->Prop}(h:iL tm o K):(o=none/\K none)\/∃x k n,o=some x/\st.ev x = .int k n/\K (some n):=by
 unfold iL at h;split at h
 ·exact Or.inl ⟨rfl,h⟩
 ·split at h
  ·rename_i e
   exact Or.inr ⟨_,_,_,rfl,hr.ev e G',h⟩
  ·exact h.elim
theorem AfU{z:Nat}{x:AL}{lo hi:Option AL}(hr:RX σ tm M st)(h:XE L tm M b9 K (.ik z x lo hi)):BO L tm b9 K (.ik z x lo hi) st:=by
 simp only[XE]at h;have go:∀(a b:Option Int),(match ex tm x with
   |.sl l es=>GE z es a b λes=>K (.sl l es) M
   |.row key t z' off len=>bif za z' z then C9 a b len λa h=>K (.row key t z (off+a) (h-a)) M else False
   |.nil=>(match a,b with
    |none,none=>K .nil M
    |some a,none=>AW (a=0) (K .nil M)
    |none,some h=>AW (h=0) (K .nil M)
    |some a,some h=>AW (a=0/\h=0) (K .nil M))
   |_=>False)->(lo=none/\a=none\/∃y k n,lo=some y/\st.ev y = .int k n/\a=some n)->(hi=none/\b=none\/∃y k n,hi=some y/\st.ev y = .int k n/\b=some n)->BO L tm b9 K (.ik z x lo hi) st:=by
  intro a b h ha hb;split at h
  ·rename_i q es e
   obtain⟨g1,a',h',g2,g3,g4,h⟩:=h;refine BO.val hr _ (λC=>?_) h;rcases ha with⟨rfl,rfl⟩|⟨y,k,n,rfl,e1,rfl⟩<;>rcases hb with⟨rfl,rfl⟩|⟨y',k',n',rfl,e2,rfl⟩<;>try simp only at g2 g3<;>simp only[e9,hr.ev e G',IC, *]<;>simp_all
  ·rename_i key t z' off len e
   cases hz:za z' z<;>simp only[hz,cond_true,cond_false]at h;obtain rfl:=BL.1 hz;obtain⟨a',h',g2,g3,g4,h⟩:=h;refine BO.val hr _ (λC=>?_) h;rcases ha with⟨rfl,rfl⟩|⟨y,k,n,rfl,e1,rfl⟩<;>rcases hb with⟨rfl,rfl⟩|⟨y',k',n',rfl,e2,rfl⟩<;>try simp only at g2 g3<;>simp only[e9,hr.ev e G',DH, *]<;>simp_all
  ·rename_i e
   rcases ha with⟨rfl,rfl⟩|⟨y,k,n,rfl,e1,rfl⟩<;>rcases hb with⟨rfl,rfl⟩|⟨y',k',n',rfl,e2,rfl⟩<;>simp only at h
   ·exact BO.val hr .nil (λC=>by simp only[e9,hr.ev e G',GI]) h
   ·exact BO.val hr .nil (λC=>by simp only[e9,hr.ev e G',GI,e2,h.1,if_true]) h.2
   ·exact BO.val hr .nil (λC=>by simp only[e9,hr.ev e G',GI,e1,h.1,if_true]) h.2
   ·exact BO.val hr .nil (λC=>by simp only[e9,hr.ev e G',GI,e1,e2,h.1.1,h.1.2,if_true]) h.2
  ·exact h.elim
 rcases qA hr h with⟨h1,h⟩|⟨y,k,n,h1,h2,h⟩
 ·rcases qA hr h with⟨g1,h⟩|⟨y,k,n,g1,g2,h⟩
  ·exact go _ _ h (Or.inl ⟨h1,rfl⟩) (Or.inl ⟨g1,rfl⟩)
  ·exact go _ _ h (Or.inl ⟨h1,rfl⟩) (Or.inr ⟨_,_,_,g1,g2,rfl⟩)
 ·rcases qA hr h with⟨g1,h⟩|⟨y',k',n',g1,g2,h⟩
  ·exact go _ _ h (Or.inr ⟨_,_,_,h1,h2,rfl⟩) (Or.inl ⟨g1,rfl⟩)
  ·exact go _ _ h (Or.inr ⟨_,_,_,h1,h2,rfl⟩) (Or.inr ⟨_,_,_,g1,g2,rfl⟩)
theorem jA{s key:Nat}:∀{M:Mem},IB s M=false->IB s (u9 key M)=false
 |[],_=>rfl
 |(i,s0,c0)::r,h=>by
  simp only[IB]at h;cases q0:za s i<;>simp only[q0,cond_true,cond_false]at h
  ·cases q1:JT s c0<;>simp only[q1,cond_true,cond_false]at h
   ·simp only[u9]
    cases za key i
    ·simp only[cond_false,IB,q0,q1,jA h]
    ·simp only[cond_true,jA h]
   ·cases h
  ·cases h
theorem Aft{s z bytes:Nat}{x y:AL}(hr:RX σ tm M st)(h:aF M (ex tm y) λys=>match ex tm x with
   |.row key 0 z' off len=>bif za off 0 then bif za z' z then(match e8 M key with
    |some (s',.rw db es)=>bif za db z then fM (u9 key M) λM'=>(BS es len ys z bytes λes' n=>HG s tm M λk=>K (.row k 0 z 0 n) ((k,s',.rw z es')::M'))else False
    |_=>False)else False else False
   |.row key (i+1) z' off len=>bif za off 0 then bif za z' z then(match e8 M key with
    |some (sk,.mx rows)=>fM (u9 key M) λM'=>E5 rows i λdb es=>bif za db z then(BS es len ys z bytes λes' n=>∀s' v,HG s tm M λk=>K (.row k 0 z 0 n) ((k,s',.rw z es')::(key,sk,.hx i v (rows.set i none))::M'))else False
    |_=>False)else False else False
   |.nil=>bif E2 s then D7 ys z bytes λes n=>HG s tm M λk=>K (.row k 0 z 0 n) ((k,s,.rw z es)::M)else False
   |_=>False):BO L tm b9 K (.app s z bytes x y) st:=by
 obtain⟨h0,ys,hy,h⟩:=xU hr h;have Ai:EX st.own (st.ev y)=some ys:=by rw[hr.ev rfl h0];exact hy
 split at h
 ·rename_i key z' off len e
  cases ho:za off 0<;>simp only[ho,cond_true,cond_false]at h;cases hz:za z' z<;>simp only[hz,cond_true,cond_false]at h;obtain rfl:=BL.1 ho;obtain rfl:=BL.1 hz;split at h
  ·rename_i s' db es hm
   cases hz2:za db z'<;>simp only[hz2,cond_true,cond_false]at h;obtain rfl:=BL.1 hz2;rw[NS]at h;obtain⟨g1,g2,g3,g4,h⟩:=h;obtain⟨k,h1,h2,h3⟩:=IY h;have hs:=hr.sat.site _ _ _ hm;have y9:=hr.sat.c9 _ _ _ (EA hm);have hn:=(hr.kill hm).gy (s:=k) (q:=s') (jA h1) h2 (.rw db (es.take len++ys)) trivial rfl (λ_=>by have:=hr.sat.low _ _ _ (EA hm) rfl;rwa [hs]at this);have Ax:(st.own.put s' ((st.own s').q9 (σ key 0).2 none)).j6 s'=st.own.j6 s':=by simp[Own.j6,Own.k9,BZ.q9]
   simp only[Own.k9,Own.jo,Ax]at hn;refine⟨.bz (.row s' (st.own.j6 s') db 0 (len+ys.length)) (st.own.put s' (((st.own s').q9 (σ key 0).2 none).new ⟨db,es.take len++ys⟩)),_,_,_,λC=>?_,h3,?_,hn⟩
   ·rw[hs]at y9
    simp only[e9,Ai,hr.ev e G',DH,Own.get,hs,y9,BA.c9];rw[if_pos g2,if_pos ⟨trivial,trivial,g1,g3,g4⟩]
   ·simp only[B3.res,DH,BV]
  ·exact h.elim
 ·rename_i key i z' off len e
  cases ho:za off 0<;>simp only[ho,cond_true,cond_false]at h;cases hz:za z' z<;>simp only[hz,cond_true,cond_false]at h;obtain rfl:=BL.1 ho;obtain rfl:=BL.1 hz;split at h
  ·rename_i sk rows hm
   rw[NS]at h;obtain⟨db,es,g0,h⟩:=h;cases hz2:za db z'<;>simp only[hz2,cond_true,cond_false]at h;obtain rfl:=BL.1 hz2;obtain⟨g1,g2,g3,g4,h⟩:=h;have h:=h (σ key (i+1)).1 (.row (σ key (i+1)).1 (σ key (i+1)).2 db 0 es.length);obtain⟨k,h1,h2,h3⟩:=IY h;have y9:=hr.sat.c9 key (i+1) (.rw db es) (by simp[c8,hm,g0]);have hn:=hr.Ki (s:=k) (es':=es.take len++ys) hm g0 h1 h2;refine⟨.bz (.row (σ key (i+1)).1 (st.own.j6 (σ key (i+1)).1) db 0 (len+ys.length)) (st.own.put (σ key (i+1)).1 (((st.own (σ key (i+1)).1).q9 (σ key (i+1)).2 none).new ⟨db,es.take len++ys⟩)),_,_,_,λC=>?_,h3,?_,hn⟩
   ·simp only[e9,Ai,hr.ev e G',DH,Own.get,y9,BA.c9]
    rw[if_pos g2,if_pos ⟨trivial,trivial,g1,g3,g4⟩]
   ·simp only[B3.res,DH,BV]
  ·exact h.elim
 ·rename_i e
  cases eo:E2 s<;>simp only[eo,cond_true,cond_false]at h;obtain⟨g2,g3,g4,h⟩:=h;obtain⟨k,h1,h2,h3⟩:=IY h;refine⟨.bz (.row s (st.own.j6 s) z 0 ys.length) (st.own.put s ((st.own s).new ⟨z,ys⟩)),_,_,_,λC=>?_,h3,?_,hr.gy h1 h2 (.rw z ys) trivial rfl (λ_=>eo)⟩
  ·simp only[e9,Ai,hr.ev e G',GI]
   rw[if_pos g2,if_pos ⟨g3,g4⟩]
  ·simp only[B3.res,DH,BV]
 ·exact h.elim
theorem Afu{s z bytes:Nat}{x y:AL}(hr:RX σ tm M st)(h:XE L tm M b9 K (.di s z bytes x y)):BO L tm b9 K (.di s z bytes x y) st:=by
 simp only[XE]at h;split at h
 ·rename_i l ys ey
  split at h
  ·rename_i key z' off len e
   cases ho:za off 0<;>simp only[ho,cond_true,cond_false]at h;cases hz:za z' z<;>simp only[hz,cond_true,cond_false]at h;obtain rfl:=BL.1 ho;obtain rfl:=BL.1 hz;split at h
   ·rename_i s' db es hm
    cases eu:za s' s<;>simp only[eu,cond_true,cond_false]at h;cases hz2:za db z'<;>simp only[hz2,cond_true,cond_false]at h;obtain rfl:=BL.1 eu;obtain rfl:=BL.1 hz2;rw[NS]at h;obtain⟨g1,g2,g3,g4,h⟩:=h;obtain⟨k,h1,h2,h3⟩:=IY h;have hs:=hr.sat.site _ _ _ hm;have y9:=hr.sat.c9 _ _ _ (EA hm);have hn:=(hr.kill hm).gy (s:=k) (q:=s') (jA h1) h2 (.rw db (es.take len++ys)) trivial rfl (λ_=>by have:=hr.sat.low _ _ _ (EA hm) rfl;rwa [hs]at this);have Ax:(st.own.put s' ((st.own s').q9 (σ key 0).2 none)).j6 s'=st.own.j6 s':=by simp[Own.j6,Own.k9,BZ.q9]
    simp only[Own.k9,Own.jo,Ax]at hn;refine⟨.rp s' (((st.own s').q9 (σ key 0).2 none).new ⟨db,es.take len++ys⟩) (.row s' (st.own.j6 s') db 0 (len+ys.length)),_,_,_,λC=>?_,h3,?_,hn⟩
    ·rw[hs]at y9
     simp only[e9,hr.ev ey G',IC,hr.ev e G',DH,Own.get,hs,y9,BA.c9];rw[if_pos ⟨trivial,g2,trivial,trivial,g1,g3,g4⟩]
    ·simp only[B3.res,DH,BV]
   ·exact h.elim
  ·rename_i e
   cases eo:E2 s<;>simp only[eo,cond_true,cond_false]at h;obtain⟨g2,g3,g4,h⟩:=h;obtain⟨k,h1,h2,h3⟩:=IY h;refine⟨.rp s ((st.own s).new ⟨z,ys⟩) (.row s (st.own.j6 s) z 0 ys.length),_,_,_,λC=>?_,h3,?_,hr.gy h1 h2 (.rw z ys) trivial rfl (λ_=>eo)⟩
   ·simp only[e9,hr.ev ey G',IC,hr.ev e G',GI]
    rw[if_pos ⟨g2,g3,g4⟩]
   ·simp only[B3.res,DH,BV]
  ·exact h.elim
 ·exact h.elim
theorem Af4{v:AV}{ky k2 z n:Nat}(h:VI M v=some (ky,some (k2,z,n))):v = .row ky 0 1 0 1/\∃sy,e8 M ky=some (sy,.bs 1 [[.row k2 0 z 0 n]]):=by
 unfold VI at h;split at h
 ·split at h
  ·rename_i hm
   simp only[ya,ga]at h;obtain⟨rfl,rfl,rfl,rfl⟩:=h;exact⟨rfl,_,hm⟩
  ·simp at h
  ·cases h
 ·cases h
theorem Af3{v:AV}{ky:Nat}(h:VI M v=some (ky,none)):v = .row ky 0 1 0 1/\∃sy,e8 M ky=some (sy,.rw 1 [[.nil]]):=by
 unfold VI at h;split at h
 ·split at h
  ·simp at h
  ·rename_i hm
   simp only[ya,ga,and_true]at h;subst h;exact⟨rfl,_,hm⟩
  ·cases h
 ·cases h
theorem Afs{s z bytes:Nat}{x y:AL}(hr:RX σ tm M st)(h:XE L tm M b9 K (.app s z bytes x y)):BO L tm b9 K (.app s z bytes x y) st:=by
 simp only[XE]at h;cases hV:Mb 800000 s<;>simp only[hV,cond_true,cond_false]at h;split at h
 ·rename_i ky k2 z2 n2 Ma
  obtain⟨qj,sy,yg⟩:=Af4 Ma;have na:=hr.sat.site _ _ _ yg;have uq:=hr.sat.c9 _ _ _ (EA yg);rw[na]at uq
  have Hq:EX st.own (st.ev y)=some [[.row (σ k2 0).1 (σ k2 0).2 z2 0 n2]]:=by
   rw[hr.ev qj G'];simp only[DH,EX,Own.get,na,uq,BA.c9,A7,va,zb,ob,ib];simp
  split at h
  ·rename_i key z' off len e
   cases ho:za off 0<;>simp only[ho,cond_true,cond_false]at h;cases hz:za z' 1<;>simp only[hz,cond_true,cond_false]at h;cases hz1:za z 1<;>simp only[hz1,cond_true,cond_false]at h;cases ny:za key k2<;>simp only[ny,cond_true,cond_false]at h;cases Nb:za key ky<;>simp only[Nb,cond_true,cond_false]at h;cases hk3:za k2 ky<;>simp only[hk3,cond_true,cond_false]at h;obtain rfl:=BL.1 ho;obtain rfl:=BL.1 hz;obtain rfl:=BL.1 hz1;split at h
   ·rename_i s2 z3 es iy
    cases Hr:za z2 z3<;>simp only[Hr,cond_true,cond_false]at h;obtain rfl:=BL.1 Hr;split at h
    ·rename_i s' rows hm
     rw[NS]at h;obtain⟨rfl,rfl,g3,g4,h⟩:=h;obtain⟨k,h1,h2,h3⟩:=IY h;have hs:=hr.sat.site _ _ _ hm;have y9:=hr.sat.c9 _ _ _ (EA hm);rw[hs]at y9;refine⟨.bz (.row s' (st.own.j6 s') 1 0 (rows.length+1)) (st.own.put s' (((st.own s').q9 (σ key 0).2 none).new ⟨1,CE σ key 0 rows++[[.row (σ k2 0).1 (σ k2 0).2 z2 0 es.length]]⟩)),_,_,_,λC=>?_,h3,?_,hr.Kj (ky:=ky) hm iy (FR.1 ny) h1 h2⟩
     ·simp only[e9,Hq,hr.ev e G',DH,Own.get,hs,y9,BA.c9]
      rw[if_pos Z',if_pos ⟨trivial,trivial,by rw[G2];exact oa _,by simpa using g3,by simpa using g4⟩];rw[zT (by rw[G2];exact oa _)];rfl
     ·simp only[B3.res,DH,BV]
    ·exact h.elim
   ·exact h.elim
  ·rename_i e
   cases eo:E2 s<;>simp only[eo,cond_true,cond_false]at h;cases hz1:za z 1<;>simp only[hz1,cond_true,cond_false]at h;obtain rfl:=BL.1 hz1;split at h
   ·rename_i s2 z3 es iy
    cases Hr:za z2 z3<;>simp only[Hr,cond_true,cond_false]at h;obtain rfl:=BL.1 Hr;rw[NS]at h;obtain⟨⟨rfl,g3⟩,h⟩:=h;obtain⟨k,h1,h2,h3⟩:=IY h;obtain⟨σ',q1,q2⟩:=hr.Pl (q:=s) iy (λe=>(WP h1 _ _ _ iy).1 e.symm) h1 h2 eo;refine⟨.bz (.row s (st.own.j6 s) 1 0 1) (st.own.put s ((st.own s).new ⟨1,[[.row (σ k2 0).1 (σ k2 0).2 z2 0 es.length]]⟩)),σ',_,_,λC=>?_,h3,?_,q2⟩
    ·simp only[e9,Hq,hr.ev e G',GI]
     rw[if_pos Z',if_pos ⟨by simpa [ET]using g3,Z'⟩];rfl
    ·simp only[B3.res,DH,q1]
   ·exact h.elim
  ·exact h.elim
 ·rename_i ky Ma
  obtain⟨qj,sy,yg⟩:=Af3 Ma;have na:=hr.sat.site _ _ _ yg;have uq:=hr.sat.c9 _ _ _ (EA yg);rw[na]at uq
  have Hq:EX st.own (st.ev y)=some [[.nil]]:=by
   rw[hr.ev qj G'];simp only[DH,EX,Own.get,na,uq,BA.c9,ob,ib];simp
  split at h
  ·rename_i key z' off len e
   cases ho:za off 0<;>simp only[ho,cond_true,cond_false]at h;cases hz:za z' 1<;>simp only[hz,cond_true,cond_false]at h;cases hz1:za z 1<;>simp only[hz1,cond_true,cond_false]at h;cases Nb:za key ky<;>simp only[Nb,cond_true,cond_false]at h;obtain rfl:=BL.1 ho;obtain rfl:=BL.1 hz;obtain rfl:=BL.1 hz1;split at h
   ·rename_i s' rows hm
    rw[NS]at h;obtain⟨rfl,g3,g4,h⟩:=h;obtain⟨k,h1,h2,h3⟩:=IY h;have hs:=hr.sat.site _ _ _ hm;have y9:=hr.sat.c9 _ _ _ (EA hm);rw[hs]at y9;refine⟨.bz (.row s' (st.own.j6 s') 1 0 (rows.length+1)) (st.own.put s' (((st.own s').q9 (σ key 0).2 none).new ⟨1,CE σ key 0 rows++[[.nil]]⟩)),_,_,_,λC=>?_,h3,?_,hr.Kk hm h1 h2⟩
    ·simp only[e9,Hq,hr.ev e G',DH,Own.get,hs,y9,BA.c9]
     rw[if_pos Z',if_pos ⟨trivial,trivial,by rw[G2];exact oa _,by simpa using g3,by simpa using g4⟩];rw[zT (by rw[G2];exact oa _)];rfl
    ·simp only[B3.res,DH,BV]
   ·exact h.elim
  ·rename_i e
   cases eo:E2 s<;>simp only[eo,cond_true,cond_false]at h;cases hz1:za z 1<;>simp only[hz1,cond_true,cond_false]at h;obtain rfl:=BL.1 hz1;obtain⟨g3,h⟩:=h;obtain⟨k,h1,h2,h3⟩:=IY h;have iq:BA.flat (.mx [none]):=by
    intro i x hx;cases i with
    |zero=>simp at hx
    |succ i=>simp at hx
   refine⟨.bz (.row s (st.own.j6 s) 1 0 1) (st.own.put s ((st.own s).new ⟨1,[[.nil]]⟩)),_,_,_,λC=>?_,h3,?_,hr.gy h1 h2 (.mx [none]) iq rfl (λ_=>eo)⟩
   ·simp only[e9,Hq,hr.ev e G',GI]
    rw[if_pos Z',if_pos ⟨by simpa [ET]using g3,Z'⟩];rfl
   ·simp only[B3.res,DH,BV]
  ·exact h.elim
 ·exact Aft hr h
theorem RX.lost(h:RX σ tm M st){k s:Nat}{c:BA}(e:e8 M k=some (s,c)) :
  RX σ tm (u9 k M) ⟨st.tm,st.own.put s (((st.own s).q9 (σ k 0).2 none).lost)⟩:=by
 have h1:=h.kill e;refine⟨h.tm,⟨h1.sat.site,λj t c1 e1=>?_,λj t c1 e1=>?_,h1.sat.inj,h1.sat.low⟩⟩
 ·have h2:=h1.sat.c9 j t c1 e1
  have h3:=h1.sat.old j t c1 e1;rw[<-h2];simp only[Own.put]at h3⊢;by_cases hs:(σ j t).1=s
  ·simp only[hs,if_true]at h3⊢
   have h3:(σ j t).2<(st.own s).j6:=h3;show(if(σ j t).2=(st.own s).j6 then none else _)=_;rw[if_neg O']
  ·simp only[if_neg hs]at h3⊢
 ·have h3:=h1.sat.old j t c1 e1
  simp only[Own.put]at h3⊢;by_cases hs:(σ j t).1=s
  ·simp only[hs,if_true]at h3⊢
   have h3:(σ j t).2<(st.own s).j6:=h3;show(σ j t).2<(st.own s).j6+1;omega
  ·simp only[if_neg hs]at h3⊢
   exact h3
theorem Afr{z bytes:Nat}{x y:AL}(hr:RX σ tm M st)(h:XE L tm M b9 K (.nf z bytes x y)):BO L tm b9 K (.nf z bytes x y) st:=by
 simp only[XE]at h;obtain⟨h0,ys,hy,h⟩:=xU hr h;have hy:EX st.own (st.ev y)=some ys:=by rw[hr.ev rfl h0];exact hy
 split at h
 ·rename_i key z' off len e
  cases ho:za off 0<;>simp only[ho,cond_true,cond_false]at h;cases hl:za len 0<;>simp only[hl,cond_true,cond_false]at h;cases hz:za z' z<;>simp only[hz,cond_true,cond_false]at h;obtain rfl:=BL.1 ho;obtain rfl:=BL.1 hl;obtain rfl:=BL.1 hz;split at h
  ·rename_i s z2 es hm
   cases hz2:za z2 z'<;>simp only[hz2,cond_true,cond_false]at h;obtain rfl:=BL.1 hz2;rw[NS]at h;obtain⟨g1,g2,g3,h⟩:=h;have hs:=hr.sat.site _ _ _ hm;have y9:=hr.sat.c9 _ _ _ (EA hm);rw[hs]at y9;refine⟨.bz (.sl false ys) (st.own.put s (((st.own s).q9 (σ key 0).2 none).lost)),_,_,_,λC=>?_,h,rfl,hr.lost hm⟩;simp only[e9,hy,hr.ev e G',DH,Own.get,hs,y9,BA.c9];rw[if_pos ⟨g1,trivial,trivial,g2,g3⟩]
  ·exact h.elim
 ·exact h.elim
theorem AfV{fs f z:Nat}{x c:AL}(hr:RX σ tm M st)(h:XE L tm M b9 K (.fe fs f z x c)):BO L tm b9 K (.fe fs f z x c) st:=by
 simp only[XE]at h;split at h
 ·rename_i f' g e
  obtain⟨hg,h⟩:=h;have he:=hr.ev e G';rw[cB,zb]at he;split at h
  ·rename_i e2
   refine⟨.bz (.j4 []) st.own,σ,_,_,λC=>?_,h,rfl,hr⟩;simp only[e9,he,hr.ev e2 G',GI];exact if_pos hg
  ·rename_i key z' off len e2
   cases ho:za off 0<;>simp only[ho,cond_true,cond_false]at h;cases hz:za z' z<;>simp only[hz,cond_true,cond_false]at h;obtain rfl:=BL.1 ho;obtain rfl:=BL.1 hz;split at h
   ·rename_i s z2 es hm
    cases hz2:za z2 z'<;>simp only[hz2,cond_true,cond_false]at h;obtain rfl:=BL.1 hz2;obtain⟨q1,q2,es',q3,h⟩:=h;have hs:=hr.sat.site _ _ _ hm;have y9:=hr.sat.c9 _ _ _ (EA hm);rw[hs]at y9;refine⟨.bz (.j4 []) (st.own.put s ((st.own s).q9 (σ key 0).2 (some ⟨z2,es'⟩))),_,_,_,λC=>?_,h,rfl,hr.Ia hm trivial (.rw z2 _) trivial (λ_=>rfl)⟩;simp only[e9,he,hr.ev e2 G',DH,Own.get,hs,y9,BA.c9];refine(if_pos hg).trans ?_;refine(if_pos ⟨q1,trivial,trivial,q2⟩).trans ?_;rw[show jT (CN L C).cmp f es=some es' from Za.2 q3];rfl
   ·exact h.elim
  ·exact h.elim
 ·exact h.elim
theorem AfM{s:Nat}(hr:RX σ tm M st)(h:XE L tm M b9 K (.pj s)):BO L tm b9 K (.pj s) st:=by
 simp only[XE]at h;cases eo:E2 s<;>simp only[eo,cond_true,cond_false]at h;obtain⟨k,h1,h2,h3⟩:=IY h;refine⟨_,_,_,_,λC=>rfl,h3,?_,hr.gy h1 h2 (.rw 2 []) trivial rfl (λ_=>eo)⟩;simp only[B3.res,rJ,BV]
theorem AfN{x kk:AL}(hr:RX σ tm M st)(h:XE L tm M b9 K (.ql x kk)):BO L tm b9 K (.ql x kk) st:=by
 simp only[XE]at h;split at h
 ·rename_i key b e e2
  split at h
  ·rename_i s z es hm
   cases hb:OZ s b9<;>simp only[hb,cond_true,cond_false]at h;obtain⟨g,h⟩:=h;have hs:=hr.sat.site _ _ _ hm;have y9:=hr.sat.c9 _ _ _ (EA hm);rw[hs]at y9;exact BO.val hr _ (λC=>by
    simp only[e9,hr.ev e G',hr.ev e2 G',rJ,rI,Own.get,hs];rw[WG hb,y9];exact if_pos g) h
  ·exact h.elim
 ·exact h.elim
theorem AfQ{x kk v:AL}(hr:RX σ tm M st)(h:XE L tm M b9 K (.pn x kk v)):BO L tm b9 K (.pn x kk v) st:=by
 simp only[XE]at h;split at h
 ·rename_i key b n e e2 e3
  split at h
  ·rename_i s z es hm
   obtain⟨g,h⟩:=h;have hs:=hr.sat.site _ _ _ hm;have y9:=hr.sat.c9 _ _ _ (EA hm);rw[hs]at y9;refine⟨.bz .any (st.own.put s ((st.own s).q9 (σ key 0).2 (some ⟨z,SY es b n⟩))),_,_,_,λC=>?_,h,rfl,hr.Ia hm trivial (.rw z _) trivial (λ_=>rfl)⟩;simp only[e9,hr.ev e G',hr.ev e2 G',hr.ev e3 G',rJ,rI,IR,Own.get,hs,y9];exact if_pos g
  ·exact h.elim
 ·exact h.elim
end
end Go.Eng

namespace Go.Eng
section
variable {σ:F5} {tm:Tm} {M:Mem} {st:St} {L:Lib} {b9:u_}
theorem Wj{own:Own}{q:Bool}{d:Nat}:∀{e:w_},G5 e=true->e.mapM (snap own q d)=some e
 |[],_=>rfl
 |v::r,h=>by
  have hv:snap own q d v=some v/\G5 r=true:=by
   cases v<;>simp only[G5]at h<;>first|cases h|exact⟨by cases d<;>rfl,h⟩
  rw[qa,hv.1,Wj hv.2];rfl
theorem Wl{own:Own}{q:Bool}{d:Nat}:∀{e:w_},NZ e=true->e.mapM (snap own q d)=some (e.map nl)
 |[],_=>rfl
 |v::r,h=>by
  have hv:snap own q d v=some (nl v)/\NZ r=true:=by
   cases v<;>simp only[NZ]at h<;>first|cases h|exact⟨by cases d<;>rfl,h⟩
  rw[qa,hv.1,Wl hv.2];rfl
theorem Wk{own:Own}{q:Bool}{d:Nat}:∀{es:v_},(∀e∈es,NZ e=true)->es.mapM (λcs:w_=>cs.mapM (snap own q d))=some (es.map λe=>e.map nl)
 |[],_=>rfl
 |e::r,h=>by
  rw[qa,Wl (h e Cb),Wk λx hx=>h x (mb _ hx)];rfl
theorem Acc{own:Own}{q:Bool}{d:Nat}:∀{es:v_},(∀e∈es,G5 e=true)->es.mapM (λcs:w_=>cs.mapM (snap own q d))=some es
 |[],_=>rfl
 |e::r,h=>by
  rw[qa,Wj (h e Cb),Acc λx hx=>h x (mb _ hx)];rfl
theorem Yr(hs:H4 σ st.own M){q:Bool}{v:AV}{K:AV->Prop}(h:W1 q M b9 v K):∃v',(∀d,snap (st.own.s9 b9) q (d+1) (A7 σ v)=some v')/\K v'/\v ≠ .any/\BK σ v=A7 σ v:=by
 cases v with
 |row key t z off len=>
  have fin:∀(z':Nat)(es:v_),((st.own.s9 b9) (σ key t).1).c9 (σ key t).2=some ⟨z',es⟩->z=z'->A5 es off len (λes=>K (.sl q es))->∃v',(∀d,snap (st.own.s9 b9) q (d+1) (A7 σ (.row key t z off len))=some v')/\K v'/\AV.row key t z off len ≠ .any/\BK σ (.row key t z off len)=A7 σ (.row key t z off len):=by
   intro z' es hb hz h;subst hz;obtain⟨h1,h2,h3⟩:=h;refine⟨_,λd=>?_,h3,G',rfl⟩;simp only[A7,snap,EX,Own.get,hb];rw[if_pos ⟨h1,trivial⟩];simp only;rw[Wk λe he=>h2 e (List.mem_of_mem_drop (List.mem_of_mem_take he))];rfl
  simp only[W1]at h;split at h
  ·rename_i s z' es hm
   split at h
   ·cases hz:za z z'<;>simp only[hz,cond_true,cond_false]at h
    cases hb:OZ s b9<;>simp only[hb,cond_true,cond_false]at h;refine fin z' es ?_ (BL.1 hz) h;have y9:=hs.c9 _ _ _ (EA hm);rw[hs.site _ _ _ hm]at y9⊢;rw[WG hb];exact y9
   ·exact h.elim
  ·rename_i s rows hm
   split at h
   ·exact h.elim
   ·rename_i i
    split at h
    ·obtain⟨z',es,g,h⟩:=h
     cases hz:za z z'<;>simp only[hz,cond_true,cond_false]at h;exact fin z' es (hs.c9 key (i+1) (.rw z' es) (by simp[c8,hm,g])) (BL.1 hz) h
    ·rename_i b r
     cases hb:WH (b::r)<;>simp only[hb,cond_true,cond_false]at h;obtain⟨z',es,g,h⟩:=h;cases hz:za z z'<;>simp only[hz,cond_true,cond_false]at h;have g':c8 M key (i+1)=some (.rw z' es):=by simp[c8,hm,g]
     refine fin z' es ?_ (BL.1 hz) h;rw[qC (hs.low _ _ _ g' rfl) hb];exact hs.c9 key (i+1) (.rw z' es) g'
  ·exact h.elim
 |int k n=>exact⟨_,λd=>rfl,h,G',rfl⟩
 |bool b=>exact⟨_,λd=>rfl,h,G',rfl⟩
 |sl l es=>exact⟨_,λd=>rfl,h,G',rfl⟩
 |x7 c=>exact⟨_,λd=>rfl,h,G',rfl⟩
 |nil=>exact⟨_,λd=>rfl,h,G',rfl⟩
 |_=>exact(h:False).elim
theorem Yq(hs:H4 σ st.own M){q:Bool}:∀{l:w_}{K:w_->Prop},jN q M b9 l K->∃l',(∀d,(l.map (A7 σ)).mapM (snap (st.own.s9 b9) q (d+1))=some l')/\K l'
 |[],K,h=>⟨[],λd=>rfl,h⟩
 |v::r,K,h=>by
  obtain⟨v',h1,h2,_⟩:=Yr hs (show W1 q M b9 v λv'=>jN q M b9 r λr'=>K (v'::r')from h);obtain⟨l',h3,h4⟩:=Yq hs h2;refine⟨v'::l',λd=>?_,h4⟩;rw[va,qa,h1 d,h3 d];rfl
theorem Yp(hs:H4 σ st.own M){q:Bool}:∀{l:v_}{K:v_->Prop},rU q M b9 l K->∃l',(∀d,(l.map λcs=>cs.map (A7 σ)).mapM (λcs:w_=>cs.mapM (snap (st.own.s9 b9) q (d+1)))=some l')/\K l'
 |[],K,h=>⟨[],λd=>rfl,h⟩
 |v::r,K,h=>by
  obtain⟨v',h1,h2⟩:=Yq hs (show jN q M b9 v λv'=>rU q M b9 r λr'=>K (v'::r')from h);obtain⟨l',h3,h4⟩:=Yp hs h2;refine⟨v'::l',λd=>?_,h4⟩;rw[va,qa,h1 d,h3 d];rfl
theorem rF{own:Own}{q:Bool}{d:Nat}{k:Nat}:∀{rows:List (p_)}{i:Nat},(∀j z es,rows[j]?=some (some (z,es))->(own (σ k (i+j+1)).1).c9 (σ k (i+j+1)).2=some ⟨z,es⟩/\∀e∈es,G5 e=true) ->
  (CE σ k i rows).mapM (λcs:w_=>cs.mapM (snap own q (d+1)))=some (L1 q rows)
 |[],i,h=>rfl
 |none::r,i,h=>by
  rw[CE,qa,rF (i:=i+1) λj z es hj=>by
   have:=h (j+1) z es (by simpa using hj)
   rwa [show i+(j+1)+1=i+1+j+1 by omega]at this]
  rfl
 |some (z,es)::r,i,h=>by
  rw[CE,qa,rF (i:=i+1) λj z es hj=>by
   have:=h (j+1) z es (by simpa using hj)
   rwa [show i+(j+1)+1=i+1+j+1 by omega]at this]
  obtain⟨h1,h2⟩:=h 0 z es rfl;have:snap own q (d+1) (.row (σ k (i+1)).1 (σ k (i+1)).2 z 0 es.length)=some (.sl q es):=by
   simp only[snap,EX,Own.get];rw[show(own (σ k (i+1)).1).c9 (σ k (i+1)).2=some ⟨z,es⟩from h1];simp only[ub,oa,and_self,if_true,yc];rw[zT (oa _),Acc h2];rfl
  rw[qa,this];rfl
theorem Vd(hs:H4 σ st.own M){q:Bool}{v:AV}{K:AV->Prop}(h:cE q M b9 v K):∃v',snap (st.own.s9 b9) q 6 (A7 σ v)=some v'/\K v'/\v ≠ .any/\BK σ v=A7 σ v/\CX (st.own.s9 b9) q (A7 σ v)=some v':=by
 have ug:W1 q M b9 v K->∃v',snap (st.own.s9 b9) q 6 (A7 σ v)=some v'/\K v'/\v ≠ .any/\BK σ v=A7 σ v/\CX (st.own.s9 b9) q (A7 σ v)=some v':=by
  intro h;obtain⟨v',h1,h2,h3,h4⟩:=Yr hs h;refine⟨v',h1 5,h2,h3,h4,?_⟩;have:=h1 5
  cases v<;>first|exact this|exact(h:False).elim
 unfold cE at h;split at h
 ·rename_i key z off len
  split at h
  ·rename_i s z' es hm
   cases hz:za z z'<;>simp only[hz,cond_true,cond_false]at h;cases hb:OZ s b9<;>simp only[hb,cond_true,cond_false]at h;cases ho:za off 0<;>simp only[ho,cond_true,cond_false]at h;obtain rfl:=BL.1 hz;obtain rfl:=BL.1 ho;obtain⟨rfl,h⟩:=h;obtain⟨l',h1,h2⟩:=Yp hs h;have y9:=hs.c9 _ _ _ (EA hm);rw[hs.site _ _ _ hm]at y9;have key:snap (st.own.s9 b9) q 6 (A7 σ (.row key 0 z 0 es.length))=some (.sl q l'):=by
    simp only[A7,snap,EX,Own.get,hs.site _ _ _ hm];rw[WG hb,y9];simp only[BA.c9,ub,Ha,oa,and_self,if_true,yc];rw[zT Z',h1 4];rfl
   exact⟨_,key,h2,G',rfl,key⟩
  ·rename_i s rows hm
   split at h
   ·cases hz:za z 1<;>simp only[hz,cond_true,cond_false]at h
    obtain rfl:=BL.1 hz;obtain⟨rfl,rfl,h1,h2⟩:=h;have y9:=hs.c9 _ _ _ (EA hm);have key:snap (st.own.s9 []) q 6 (A7 σ (.row key 0 1 0 rows.length))=some (.sl q (L1 q rows)):=by
     simp only[A7,snap,EX,Own.get,Own.s9];rw[y9];simp only[BA.c9,ub,G2,oa,and_self,if_true,yc];rw[zT (by rw[G2];exact oa _),rF (i:=0) λj z es hj=>⟨by
      have:=hs.c9 key (j+1) (.rw z es) (by simp[c8,hm,hj])
      simpa [BA.c9]using this,h1 z es (zM hj)⟩]
     rfl
    exact⟨_,key,h2,G',rfl,key⟩
   ·exact h.elim
  ·exact ug h
 ·exact ug h
theorem Add(hs:H4 σ st.own M){q:Bool}:∀{l:w_}{K:w_->Prop},rV q M b9 l K->∃l',(l.map (A7 σ)).mapM (snap (st.own.s9 b9) q 6)=some l'/\K l'
 |[],K,h=>⟨[],rfl,h⟩
 |v::r,K,h=>by
  obtain⟨v',h1,h2,_⟩:=Vd hs (show cE q M b9 v λv'=>rV q M b9 r λr'=>K (v'::r')from h);obtain⟨l',h3,h4⟩:=Add hs h2;refine⟨v'::l',?_,h4⟩;rw[va,qa,h1,h3];rfl
theorem jM(hs:H4 σ st.own M){q:Bool}{v:AV}{K:AV->Prop}(h:RG q M b9 v K):∃v',CX (st.own.s9 b9) q (BB σ v)=some v'/\K v'/\v ≠ .any/\BB σ v=BK σ v:=by
 cases v with
 |agg cs=>
  simp only[RG]at h;obtain⟨l',h1,h2⟩:=Add hs h;refine⟨.agg l',?_,h2,G',rfl⟩;simp only[KC,CX,h1,sa]
 |j4 vs=>exact(h:False).elim
 |fn p f g cs=>exact(h:False).elim
 |any=>exact(h:False).elim
 |_=>
  simp only[RG]at h;obtain⟨v',h1,h2,h3,h4,h5⟩:=Vd hs h;exact⟨v',h5,h2,h3,rfl⟩
theorem jP(hr:RX σ tm M st):∀{xs:List AL}{K:w_->Prop},cF tm M b9 xs K->∃vs,(xs.map st.ev).mapM (CX (st.own.s9 b9) true)=some vs/\K vs
 |[],K,h=>⟨[],rfl,h⟩
 |x::r,K,h=>by
  obtain⟨v',h1,h2,h3,_⟩:=jM hr.sat (show RG true M b9 (ex tm x) λv=>cF tm M b9 r λvs=>K (v::vs)from h);obtain⟨l',h4,h5⟩:=jP hr h2;refine⟨v'::l',?_,h5⟩;rw[va,qa,hr.ev rfl h3,h1,h4];rfl
theorem Anl(hs:H4 σ st.own M){v:AV}{K:AV->Prop}(h:jO M b9 v K):∃v',QB (st.own.s9 b9) true (BB σ v)=some v'/\K v'/\v ≠ .any/\BB σ v=BK σ v:=by
 cases v with
 |nil=>exact⟨.nil,rfl,h,G',rfl⟩
 |_=>
  simp only[jO]at h;obtain⟨v',h1,h2,h3,h4⟩:=jM hs h;exact⟨v',h1,h2,h3,h4⟩
theorem Ys(hr:RX σ tm M st):∀{xs:List AL}{K:w_->Prop},rW tm M b9 xs K->∃vs,(xs.map st.ev).mapM (QB (st.own.s9 b9) true)=some vs/\K vs
 |[],K,h=>⟨[],rfl,h⟩
 |x::r,K,h=>by
  obtain⟨v',h1,h2,h3,_⟩:=Anl hr.sat (show jO M b9 (ex tm x) λv=>rW tm M b9 r λvs=>K (v::vs)from h);obtain⟨l',h4,h5⟩:=Ys hr h2;refine⟨v'::l',?_,h5⟩;rw[va,qa,hr.ev rfl h3,h1,h4];rfl
theorem X9(hr:RX σ tm M st):∀{xs:List AL}{K:w_->Prop},V7 tm xs K->∃vs,xs.map st.ev=vs.map (BB σ)/\K vs
 |[],K,h=>⟨[],rfl,h⟩
 |x::r,K,h=>by
  obtain⟨h1,h2⟩:=fZ (show fV (ex tm x) λv=>V7 tm r λvs=>K (v::vs)from h);obtain⟨vs,h3,h4⟩:=X9 hr h2;exact⟨ex tm x::vs,by rw[va,va,hr.ev rfl h1,h3],h4⟩
theorem vP{v:AV}(h:AY v):A7 σ v=v:=by
 cases v<;>first|rfl|(simp only[AY]at h)
theorem vN:∀{l:w_},BI l->l.map (A7 σ)=l
 |[],_=>rfl
 |v::r,h=>by
  simp only[BI]at h;rw[va,vP h.1,vN h.2]
theorem vQ{v:AV}(h:AY v):BK σ v=v:=by
 cases v with
 |agg cs=>simp only[AY]at h;simp only[BK,vN h]
 |fn p f g cs=>simp only[AY]at h
 |_=>exact vP (σ:=σ) h
theorem vO:∀{l:w_},BI l->l.map (BK σ)=l
 |[],_=>rfl
 |v::r,h=>by
  simp only[BI]at h;rw[va,vQ h.1,vO h.2]
theorem lJ{v:AV}(h:AY v):BB σ v=v:=by
 cases v with
 |j4 cs=>simp only[AY]at h;simp only[BB,vO h]
 |_=>exact vQ (σ:=σ) h
theorem Wx{I:w_->Option (AV×Own)}{vs:w_}{r:AV}(h:JM I vs=some r):AY r:=by
 unfold JM at h;split at h
 ·split at h
  ·split at h
   ·obtain rfl:=ua h
    assumption
   ·cases h
  ·cases h
 ·cases h
theorem Ev.clean{f:Nat}{vs:w_}{r:AV}(h:Ev L f vs r):AY r:=by
 obtain⟨n,h⟩:=h;unfold FU N2 at h;split at h
 ·unfold N1 at h
  split at h
  ·split at h
   ·rename_i r1 r2 h1 h2
    split at h
    ·obtain rfl:=ua h
     exact Wx h1
    ·cases h
   ·cases h
  ·exact Wx h
 ·split at h
  ·split at h
   ·obtain rfl:=ua h
    assumption
   ·cases h
  ·cases h
theorem RX.put(h:RX σ tm M st)(d:Nat){v v':AV}(e:v'=BB σ v):RX σ ((d,v)::tm) M ⟨jz st.tm d v',st.own⟩:=by
 refine⟨λj=>?_,h.sat⟩;simp only[tg,cN];cases hb:za j d
 ·rw[if_neg (FR.1 hb)];exact h.tm j
 ·rw[if_pos (BL.1 hb)];exact Or.inr e
theorem Wm:∀{cs:w_},bL cs=true->cs.map (BB σ)=cs.map (A7 σ)
 |[],_=>rfl
 |v::r,h=>by
  simp only[bL]at h;cases hv:qE v<;>simp only[hv,cond_true,cond_false]at h
  ·cases h
  ·rw[va,va,Wm h]
   cases v<;>first|rfl|(simp[qE]at hv)
theorem Ah7{v:AV}(h:GZ v=true):A7 σ v=v:=by cases v<;>first|rfl|(simp[GZ]at h)
theorem xI:∀{cs:w_},cs.all GZ=true->cs.map (A7 σ)=cs
 |[],_=>rfl
 |c::r,h=>by
  simp only[od,Pa]at h;rw[va,Ah7 h.1,xI h.2]
theorem xJ:∀{vs:w_},vs.all dq=true->vs.map (BB σ)=vs
 |[],_=>rfl
 |v::r,h=>by
  simp only[od,Pa]at h;rw[va,xJ h.2];congr 1;cases v with
  |agg cs=>simp only[BB,BK,xI (show cs.all GZ=true from h.1)]
  |_=>first|rfl|(simp[dq,GZ]at h)
theorem Alv{r:AV}(hc:AY r)(hf:KI r):BB σ (zd r)=zd r:=by
 cases r with
 |agg cs=>
  simp only[zd,BB,BK];congr 1;rw[vb];refine Oa λc ur=>?_
  have:=hf c ur
  cases c<;>first|rfl|exact this.elim
 |_=>first|rfl|exact hf.elim
theorem Alq{c:AV}(h:AY c):A7 σ (HM c)=HM c:=by
 cases c<;>first|(simp only[HM,A7];done)|(simp only[AY]at h;done)
theorem oY{r:AV}(h:AY r)(hd:cZ r):BK σ (J5 r)=J5 r:=by
 cases r with
 |agg cs=>
  simp only[AY]at h;have:∀cs:w_,BI cs->(I9 cs).map (A7 σ)=I9 cs:=by
   intro cs;induction cs with
   |nil=>intro _;simp[I9]
   |cons c l ih=>
    intro h;simp only[BI]at h;rw[I9,va,ih h.2,Alq h.1]
  simp only[J5,BK,this cs h]
 |j4=>exact hd.elim
 |fn=>exact hd.elim
 |_=>first|(simp only[J5,HM,BK,A7];done)|(simp only[AY]at h;done)
theorem Als{r:AV}(h:AY r)(hd:U3 r):BB σ (LV r)=LV r:=by
 cases r with
 |j4 vs=>
  simp only[AY]at h;have:∀vs:w_,BI vs->(∀v∈vs,cZ v)->(vs.map J5).map (BK σ)=vs.map J5:=by
   intro vs;induction vs with
   |nil=>intro _ _;rfl
   |cons v l ih=>
    intro h hd;simp only[BI]at h;rw[va,va,ih h.2 λx hx=>hd x (mb _ hx),oY h.1 (hd v Cb)]
  simp only[LV,BB,this vs h hd]
 |fn=>exact hd.elim
 |agg cs=>exact oY h trivial
 |_=>first|exact oY h trivial|(simp only[LV,J5,HM,BB,BK,A7];done)|(simp only[AY]at h;done)
theorem Alt{r:AV}(h:AY r)(hd:KI r\/U3 r):BB σ (NV r)=NV r:=by
 by_cases hf:KI r
 ·rw[pA hf];exact Alv h hf
 ·rw[oZ hf];exact Als h (hd.resolve_left hf)
theorem Py:∀{l:w_},gN l=true->l.map (BB σ)=l
 |[],_=>rfl
 |.int _ _::r,h=>by
  rw[va,Py (l:=r) h];rfl
theorem Se{s:Nat}:∀{M:Mem},YS s M=true->∀k s' c,e8 M k=some (s',c)->s'≠s
 |[],_,_,_,_,e=>by cases e
 |(k0,s0,c0)::r,h,k,s',c,e=>by
  simp only[YS]at h;cases hb:za s0 s<;>simp only[hb,cond_true,cond_false]at h
  ·simp only[e8]at e
   cases hk:za k k0<;>simp only[hk,cond_true,cond_false]at e
   ·exact Se h k s' c e
   ·obtain⟨rfl,_⟩:=Prod.mk.inj (ua e)
    exactλe2=>by rw[e2]at hb;simp at hb
  ·cases h
theorem H4.Ar{σ:F5}{own Hy:Own}{M:Mem}{s:Nat}(h:H4 σ own M)(hl:E2 s=false)(hn:YS s M=true)(ho:∀q,q≠s->Hy q=own q):H4 σ Hy M:=by
 have o7:∀k t c,c8 M k t=some c->(σ k t).1≠s:=λk t c e=>by
  cases hr:c.isRow with
  |true=>
   intro e2;have:=h.low k t c e hr
   rw[e2,hl]at this;cases this
  |false=>
   obtain⟨s',c0,g,g1,g2⟩:=JB e;cases t with
   |zero=>rw[h.site k s' c0 g];exact Se hn k s' c0 g
   |succ i=>
    obtain⟨rows,z,es,_,_,rfl⟩:=g2 i rfl;cases hr
 exact⟨h.site,λk t c e=>by rw[ho _ (o7 k t c e)];exact h.c9 k t c e,λk t c e=>by rw[ho _ (o7 k t c e)];exact h.old k t c e,h.inj,h.low⟩
theorem AfE{K:AV->Mem->Prop}(hr:RX σ tm M st){op:DU}(h:XE L tm M b9 K op):BO L tm b9 K op st\/(∃f xs,op = .call f xs)\/(∃f xs,op = .j5 f xs)\/(∃x xs,op = .u6 x xs)\/(∃f xs,op = .o5 f xs)\/(∃s f xs,op = .x5 s f xs)\/∃s f xs,op = .cz s f xs:=by
 cases op with
 |call f xs=>exact Or.inr (Or.inl ⟨_,_,rfl⟩)
 |j5 f xs=>exact Or.inr (Or.inr (Or.inl ⟨_,_,rfl⟩))
 |u6 x xs=>exact Or.inr (Or.inr (Or.inr (Or.inl ⟨_,_,rfl⟩)))
 |o5 f xs=>exact Or.inr (Or.inr (Or.inr (Or.inr (Or.inl ⟨_,_,rfl⟩))))
 |x5 s f xs=>exact Or.inr (Or.inr (Or.inr (Or.inr (Or.inr (Or.inl ⟨_,_,_,rfl⟩)))))
 |cz s f xs=>exact Or.inr (Or.inr (Or.inr (Or.inr (Or.inr (Or.inr ⟨_,_,_,rfl⟩)))))
 |po s n x v=>exact Or.inl (AfW hr h)
 |di s z b x y=>exact Or.inl (Afu hr h)
 |ta ne x=>exact Or.inl (AfG hr h)
 |bad=>exact(show False from h).elim
 |kx x=>exact Or.inl (AfR hr h)
 |pj s=>exact Or.inl (AfM hr h)
 |nf z b x y=>exact Or.inl (Afr hr h)
 |fe fs f z x c=>exact Or.inl (AfV hr h)
 |ql x k=>exact Or.inl (AfN hr h)
 |pn x k v=>exact Or.inl (AfQ hr h)
 |ix tb x=>exact Or.inl (AfT hr h)
 |pg p f xs=>exact Or.inl (AfL hr h)
 |o9 x=>exact Or.inl (AfP hr h)
 |z8 s z=>exact Or.inl (AfY hr h)
 |pick c a b=>exact Or.inl (AfS hr h)
 |bin o x y=>exact Or.inl (Afw hr h)
 |beq ne x y=>exact Or.inl (Afv hr h)
 |un o x=>exact Or.inl (AfX hr h)
 |conv k x=>exact Or.inl (AfA hr h)
 |box s x=>exact Or.inl (Afx hr h)
 |alloc s z=>exact Or.inl (Afq hr h)
 |build z ps=>exact Or.inl (Afz hr h)
 |b8 s z ps=>exact Or.inl (Afy hr h)
 |lit z ps=>exact Or.inl (AfJ hr h)
 |l8 x o=>exact Or.inl (AfC hr h)
 |nj x o n a=>exact Or.inl (AfD hr h)
 |q8 a z x i=>exact Or.inl (AfF hr h)
 |ld a n x=>exact Or.inl (AfH hr h)
 |st n x v=>exact Or.inl (uK hr h)
 |mk s z b ze l c=>exact Or.inl (AfK hr h)
 |ik z x lo hi=>exact Or.inl (AfU hr h)
 |ext x i=>exact Or.inl (AfB hr h)
 |len x=>exact Or.inl (AfI hr h)
 |mm m xs=>exact Or.inl (AfO hr h)
 |app s z b x y=>exact Or.inl (Afs hr h)
theorem kR{K:AV->Mem->Prop}(hr:RX σ tm M st){op:DU}{d:Option Nat}{g:Option (Nat×Bool)}{l:List AI}{k:List It}{Q:St->Prop}(h:XE L tm M b9 K op)(hg:F7 st g=some true)
  (hk:∀σ' v v' M' o8,K v M'->v'=BB σ' v->RX σ' tm M' ⟨st.tm,o8⟩->AO L l k ⟨((⟨st.tm,o8⟩:St).dst d v').tm,o8⟩ Q):AO L (⟨d,op,g,b9⟩::l) k st Q:=by
 rcases AfE hr h with⟨E,σ',v,M',h1,h2,h3,h4⟩|⟨f,xs,rfl⟩|⟨f,xs,rfl⟩|⟨x,xs,rfl⟩|⟨f,xs,rfl⟩|⟨s,f,xs,rfl⟩|⟨s,f,xs,rfl⟩
 ·rw[AeL hg h1,kZ]
  have:=hk σ' v _ M' _ h2 h3 h4
  cases d<;>exact this
 ·simp only[XE]at h
  obtain⟨vs,h1,r,h2,h3⟩:=jP hr h;rw[AeB hg h1 h2];have:=hk σ r r M st.own h3 (lJ h2.clean).symm hr
  cases d<;>exact this
 ·simp only[XE]at h
  split at h
  ·rename_i s
   obtain⟨vs,h1,hF,⟨hl,hn⟩,h2⟩:=X9 hr h;have eu:H4 σ (st.own.put s ⟨0,λ_=>none⟩) M:=hr.sat.Ar hl hn λq hq=>by simp[Own.put,hq]
   obtain⟨r,o8,σ',M',⟨n,h3⟩,h4,h5,ve,h6⟩:=h2 σ _ eu;rw[<-h1]at h3;refine AeA hg (r:=BB σ' r) (o':=o8.put s ⟨0,λ_=>none⟩) (by simp[Own.put]) ⟨n,λo ho=>?_⟩ ?_
   ·rw[hF n _ _ o _ _ (λt=>by simp[Own.get,Own.put]) (λq hq=>by rw[ho q hq];simp[Own.put,hq]) h3]
    congr 2;funext q
    simp only[Own.put];split<;>rfl
   ·have:=hk σ' r _ M' ((o8.put s ⟨0,λ_=>none⟩).put s (st.own s)) h6 rfl ⟨λj=>by rw[h5 j];exact hr.tm j,h4.Ar hl ve λq hq=>by simp[Own.put,hq]⟩
    cases d<;>exact this
  ·rename_i hb
   obtain⟨vs,h1,h2⟩:=X9 hr h;obtain⟨r,o8,σ',M',h3,h4,h5,h6⟩:=h2 σ st.own hr.sat;rw[<-h1]at h3;rw[AeD (λs e=>hb s e) hg h3];have:=hk σ' r _ M' o8 h6 rfl ⟨λj=>by rw[h5 j];exact hr.tm j,h4⟩
   cases d<;>exact this
 ·simp only[XE]at h
  split at h
  ·rename_i f g' e1
   obtain⟨h0,h⟩:=h;obtain⟨vs,h1,r,h2,h3⟩:=jP hr h;have e2:=hr.ev e1 G';rw[cB,zb,h0]at e2;rw[AeE hg e2 h1 h2];have:=hk σ r r M st.own h3 (lJ h2.clean).symm hr
   cases d<;>exact this
  ·rename_i f g' c cs e1
   obtain⟨h0,h⟩:=h;obtain⟨v',h1,h,_,_⟩:=jM hr.sat h;obtain⟨vs,h2,r,h3,h4⟩:=jP hr h;have e2:=hr.ev e1 G';rw[cB,h0]at e2;have h5:(AV.agg (c::cs |>.map (A7 σ))::xs.map st.ev).mapM (CX st.own true)=some (v'::vs):=by
    rw[qa,show CX st.own true (AV.agg (c::cs |>.map (A7 σ)))=some v' from h1,show(xs.map st.ev).mapM (CX st.own true)=some vs from h2];rfl
   rw[AeC hg e2 h5 h3];have:=hk σ r r M st.own h4 (lJ h3.clean).symm hr
   cases d<;>exact this
  ·rename_i f g' cs e1
   cases ho:bL cs<;>simp only[ho,cond_true,cond_false]at h;obtain⟨h0,h⟩:=h;obtain⟨vs,h1,h2⟩:=X9 hr h;rw[I7]at h2;obtain⟨r,o8,σ',M',h3,h4,h5,h6⟩:=h2 σ st.own hr.sat;rw[Dc,<-h1,Wm (σ:=σ) ho]at h3;have e2:=hr.ev e1 G';rw[cB,h0]at e2;rw[AeH hg e2 h3];have:=hk σ' r _ M' o8 h6 rfl ⟨λj=>by rw[h5 j];exact hr.tm j,h4⟩
   cases d<;>exact this
  ·exact h.elim
 ·simp only[XE]at h
  obtain⟨vs,h1,h2⟩:=X9 hr h;cases ho:vs.all dq<;>simp only[ho,cond_true,cond_false]at h2;obtain⟨r,h3,h4,h5⟩:=h2;have e1:xs.map st.ev=vs:=by rw[h1];exact xJ ho
  rw[AeF hg (by rw[e1];exact ho) (by rw[e1];exact h3) h4];have:=hk σ (NV r) (NV r) M st.own h5 (Alt h3.clean h4).symm hr
  cases d<;>exact this
 ·simp only[XE]at h
  cases jv:E2 s<;>simp only[jv,cond_true,cond_false]at h;obtain⟨vs,h1,z,es,n,h2,rfl,h3⟩:=Ys hr h;obtain⟨k',g1,g2,g3⟩:=IY h3;refine AeG hg h1 h2 ?_;rw[kZ];have:=hk (C7 σ k' λ_=>(s,st.own.j6 s)) _ (.row s (st.own.j6 s) z 0 es.length) _ _ g3 (by simp only[DH,BV]) (hr.gy (q:=s) g1 g2 (.rw z es) trivial rfl (λ_=>jv))
  cases d<;>exact this
 ·simp only[XE]at h
  obtain⟨vs,h1,h2⟩:=X9 hr h;split at h2
  ·rename_i key rest
   cases hi:gN rest<;>simp only[hi,cond_true,cond_false]at h2;obtain⟨cells,il,kd,n,g1,g2,g3,g4,g5⟩:=h2;have gv:=hr.sat.site _ _ _ g1;have y9:=hr.sat.c9 _ _ _ (EA g1);rw[gv]at y9;simp only[BA.c9,KQ g2]at y9;have cr:xs.map st.ev = .ptr s (σ key 0).2 0 0::rest:=by
    rw[h1,va,EZ,gv,Py hi]
   have hE:=g4 (σ key 0).2 (st.own s) y9;refine AeI hg (by rw[cr];exact hE) ?_;rw[kZ];have:=hk σ (.int kd n) (.int kd n) _ _ g5 rfl (hr.Ia g1 trivial (.bx il) trivial (λh=>by cases h))
   simp only[BA.c9,KQ g3]at this;cases d<;>exact this
  ·exact h2.elim
theorem Akk(hr:RX σ tm M st){g:Nat}{w:Bool}{b:Bool}(e:tg tm g = .bool b):F7 st (some (g,w))=some (b == w):=by
 rcases hr.tm g with h|h
 ·rw[e]at h;cases h
 ·rw[e]at h
  simp only[F7,h,IQ]
theorem Akl(hr:RX σ tm M st){g:Nat}{w:Bool}(e:tg tm g = .j4 []):F7 st (some (g,w))=some false:=by
 rcases hr.tm g with h|h
 ·rw[e]at h;cases h
 ·rw[e]at h
  simp only[F7,h,KD,zb]
theorem sR{key:Nat}:∀(tm:Tm)(j:Nat),tg (Ec key tm) j = .any\/tg (Ec key tm) j=tg tm j
 |[],_=>Or.inl rfl
 |(i,v)::r,j=>by
  simp only[Ec];cases hc:RU key v<;>cases hb:za j i;all_goals simp only[cond_true,cond_false,tg,hb]
  ·exact sR r j
  ·exact Or.inr trivial
  ·exact sR r j
  ·exact Or.inl trivial
theorem Aom{v:AV}{K:Tm->Prop}(h:xk v tm K):∃bp,(∀j,tg bp j = .any\/tg bp j=tg tm j)/\K bp:=by
 unfold xk at h;split at h
 ·rw[YB]at h
  exact⟨_,λj=>sR _ j,h⟩
 ·exact⟨_,λj=>Or.inr rfl,h⟩
theorem uL{k:List It}{Q:Tm->Mem->Prop}:∀{l:List AI}{K:Tm->Mem->Prop}{tm:Tm}{M:Mem},XO L l K tm M->(∀bp M',K bp M'->AA L k bp M' Q)->tJ L l k tm M Q
 |[],K,tm,M,h,hk=>λσ st hr=>AeJ.2 (hk tm M h σ st hr)
 |o::l,K,tm,M,h,hk=>by
  intro σ st hr;have h:XI L o (XO L l) K tm M:=h;have ih:∀bp M',XO L l K bp M'->tJ L l k bp M' Q:=λbp M' h'=>uL h' hk
  have some_:∀(d:Nat)(op:DU)(g:Option (Nat×Bool))(b9:u_),F7 st g=some true->XE L tm M b9 (λv M=>XO L l K ((d,v)::tm) M) op->AO L (⟨some d,op,g,b9⟩::l) k st (SQ Q):=by
   intro d op g b9 hg hx;refine kR hr hx hg ?_;intro σ' v v' M' o8 h1 h2 h3;exact ih _ _ h1 σ' _ (h3.put d h2)
  have Cu:∀(d:Nat)(u:AV)(op:DU)(b9:u_),XE L tm M b9 (λv M=>xk u tm λtm=>XO L l K ((d,v)::tm) M) op->AO L (⟨some d,op,none,b9⟩::l) k st (SQ Q):=by
   intro d u op b9 hx;refine kR hr hx rfl ?_;intro σ' v v' M' o8 h1 h2 h3;obtain⟨bp,g1,g2⟩:=Aom h1;exact ih _ _ g2 σ' _ ((show RX σ' bp M' ⟨st.tm,o8⟩from⟨λj=>(g1 j).elim Or.inl λe=>by rw[e];exact h3.tm j,h3.sat⟩).put d h2)
  have none_:∀(op:DU)(g:Option (Nat×Bool))(b9:u_),F7 st g=some true->XE L tm M b9 (λ_ M=>XO L l K tm M) op->AO L (⟨none,op,g,b9⟩::l) k st (SQ Q):=by
   intro op g b9 hg hx;refine kR hr hx hg ?_;intro σ' v v' M' o8 h1 h2 h3;exact ih _ _ h1 σ' _ h3
  have Aq:∀(d:Option Nat)(op:DU)(g:Option (Nat×Bool))(b9:u_),F7 st g=some false->(match d with|some d=>XO L l K ((d,.j4 [])::tm) M|none=>XO L l K tm M)->AO L (⟨d,op,g,b9⟩::l) k st (SQ Q):=by
   intro d op g b9 hg hx;rw[AeK hg];cases d with
   |none=>exact ih _ _ hx σ _ hr
   |some d=>exact ih _ _ hx σ _ (hr.put d rfl)
  obtain⟨d,op,g,b9⟩:=o;cases g with
  |none=>
   cases d with
   |none=>exact none_ op none b9 rfl h
   |some d=>
    cases op with
    |app s z b x y=>exact Cu d (ex tm x) (.app s z b x y) b9 h
    |_=>exact some_ d _ none b9 rfl h
  |some gw=>
   obtain⟨g,w⟩:=gw;have h:(match tg tm g with
    |.bool b=>fB (b == w) λc=>match c,d with
     |true,some d=>XE L tm M b9 (λv M=>XO L l K ((d,v)::tm) M) op
     |true,none=>XE L tm M b9 (λ_ M=>XO L l K tm M) op
     |false,some d=>XO L l K ((d,.j4 [])::tm) M
     |false,none=>XO L l K tm M
    |.j4 []=>match d with
     |some d=>XO L l K ((d,.j4 [])::tm) M
     |none=>XO L l K tm M
    |_=>False):=by cases d<;>cases op<;>exact h
   split at h
   ·rename_i b e
    rw[R5]at h;have hg:=Akk hr (w:=w) e;cases hb:(b == w)<;>rw[hb]at h hg
    ·exact Aq d op _ b9 hg (by cases d<;>exact h)
    ·cases d with
     |none=>exact none_ op _ b9 hg h
     |some d=>exact some_ d op _ b9 hg h
   ·rename_i e
    exact Aq d op _ b9 (Akl hr e) (by cases d<;>exact h)
   ·exact h.elim
theorem kS{Q:Tm->Mem->Prop}:∀{n:Nat}{k:List It}{tm:Tm}{M:Mem},XK L Q n k tm M->AA L k tm M Q
 |0,k,tm,M,h=>h
 |n+1,[],tm,M,h=>λσ st hr=>Aeu.2 ⟨σ,tm,M,hr,h⟩
 |n+1,it::k,tm,M,h=>by
  have h:XS L Q (XK L Q n) (it::k) tm M:=h;have ih:∀k tm M,XK L Q n k tm M->AA L k tm M Q:=λk tm M h=>kS h
  intro σ st hr;cases it with
  |c9 id=>exact Aem.2 (ih _ _ _ h σ st hr)
  |ot ts ss=>
   simp only[XS,AjX,YB]at h;cases ss with
   |cons s r=>exact h.elim
   |nil=>
    refine Aeq.2 (ih _ _ _ h σ _ ⟨λj=>?_,hr.sat⟩);rw[cK,ZB,uU,lD,jd];cases hc:ts.contains j
    ·simp only[qb,if_false,cond_false]
     exact hr.tm j
    ·exact Or.inl rfl
  |lp c=>exact h σ st hr
  |code c=>
   cases c with
   |skip=>exact Aez.2 (ih _ _ _ h σ st hr)
   |ops l d=>exact Aev.2 (uL h (λbp M' h'=>ih _ _ _ h') σ st hr)
   |dr c ts ss=>exact Aep.2 (ih _ _ _ h σ st hr)
   |scope c=>exact Aex.2 (ih _ _ _ h σ st hr)
   |seq a b=>exact Aey.2 (ih _ _ _ h σ st hr)
   |cond x a b=>
    simp only[XS]at h;split at h
    ·rename_i b' e
     rw[R5]at h;rw[Aeo (hr.ev e G')];cases b'
     ·simpa using ih _ _ _ h σ st hr
     ·simpa using ih _ _ _ h σ st hr
    ·exact h.elim
   |block id c=>exact Aen.2 (ih _ _ _ h σ st hr)
   |loop c=>exact Aes.2 (tH.1 (h σ st hr))
   |exit id=>
    simp only[XS]at h;split at h
    ·rename_i k' e
     exact(Aer e).2 (ih _ _ _ h σ st hr)
    ·exact h.elim
   |ret=>exact Aew.2 ⟨σ,tm,M,hr,h⟩
theorem AmK(hr:RX σ tm M st){r:LJ}{K:AV->Prop}(h:bX tm M r K):∃v,FY st r=some (BB σ v)/\K v/\BB σ v=BK σ v:=by
 cases r with
 |tmp t=>
  simp only[bX]at h;obtain⟨h1,h2,h3⟩:=Rh (σ:=σ) h;refine⟨_,?_,h3,h2⟩;rcases hr.tm t with e|e
  ·exact absurd e h1
  ·simp only[FY,e]
   cases hv:tg tm t<;>rw[hv]at h h1<;>first|rfl|exact(h:False).elim
 |cell t agg n=>
  simp only[bX]at h;split at h
  ·rename_i key i j e
   split at h
   ·rename_i s cs hm
    cases hi:za i 0<;>simp only[hi,cond_true,cond_false]at h;obtain rfl:=BL.1 hi;split at h
    ·rename_i ds hp
     rw[I7]at h;rcases hr.tm t with e'|e'
     ·rw[e]at e';cases e'
     ·have hs:=hr.sat.site _ _ _ hm
      have y9:=hr.sat.c9 _ _ _ (EA hm);rw[hs]at y9;have flat:∀v,M4 agg (ds.map (A7 σ))=some (BB σ v)->FY st (.cell t agg n)=some (BB σ v):=by
       intro v hv;simp only[FY,e',e,EZ,Own.qk,Own.get,hs,y9,BA.c9,Lb,iR hp,hv]
      cases agg
      ·simp only[rk]at h
       split at h
       ·rename_i c
        obtain⟨_,h1,h2⟩:=Ri (σ:=σ) h;refine⟨c,flat c (by rw[h1];rfl),h2,?_⟩;rw[h1];cases c<;>first|rfl|exact(h:False).elim
       ·exact h.elim
      ·exact⟨.agg ds,flat _ rfl,h,rfl⟩
    ·exact h.elim
   ·exact h.elim
  ·exact h.elim
theorem qX(hr:RX σ tm M st):∀{l:List LJ}{K:w_->Prop},iY tm M l K->∃vs,l.mapM (FY st)=some (vs.map (BB σ))/\K vs/\vs.map (BB σ)=vs.map (BK σ)
 |[],K,h=>⟨[],rfl,h,rfl⟩
 |r::l,K,h=>by
  obtain⟨v,h1,h2,h3⟩:=AmK hr (show bX tm M r λv=>iY tm M l λvs=>K (v::vs)from h);obtain⟨vs,h4,h5,h6⟩:=qX hr h2;exact⟨v::vs,by rw[qa,h1,h4];rfl,h5,by rw[va,va,h3,h6]⟩
theorem Vc(hs:H4 σ st.own M){q:Bool}:∀{l:w_}{K:w_->Prop},rT q M l K->∃l',(l.map (BB σ)).mapM (CX st.own q)=some l'/\K l'/\∀v∈l,BB σ v=BK σ v
 |[],K,h=>⟨[],rfl,h,λv hv=>by cases hv⟩
 |v::r,K,h=>by
  obtain⟨v',h1,h2,_,h0⟩:=jM hs (show RG q M [] v λv'=>rT q M r λr'=>K (v'::r')from h);obtain⟨l',h3,h4,h5⟩:=Vc hs h2;refine⟨v'::l',?_,h4,λu hu=>?_⟩
  ·rw[va,qa,show CX st.own q (BB σ v)=some v' from h1,h3];rfl
  ·rcases Ba.1 hu with rfl|hu
   ·exact h0
   ·exact h5 u hu
theorem Ano{own:Own}{q:Bool}{v v':AV}(h:CX own q v=some v'):US own q v=some v':=by
 cases v with
 |j4 vs=>simp[CX,snap]at h
 |_=>exact h
theorem AlC{f:AV->Option AV}{x y:AV}{r l':w_}(h:(x::y::r).mapM f=some l'):∃a b c,l'=a::b::c:=by
 rw[qa,qa]at h;cases hx:f x with
 |none=>rw[hx]at h;cases h
 |some a=>
  cases hy:f y with
  |none=>rw[hx,hy]at h;cases h
  |some b=>
   cases hr:r.mapM f with
   |none=>rw[hx,hy,hr]at h;cases h
   |some c=>
    rw[hx,hy,hr]at h;exact⟨a,b,c,(ua h).symm⟩
theorem uH{fn:AFn}{r:AV}(hr:RX σ tm M st)(h:QK fn r tm M):ZT fn r st:=by
 unfold QK at h;obtain⟨vs,h1,h2,h3⟩:=qX hr h;obtain⟨l',h4,h5,h6⟩:=Vc hr.sat h2;unfold ZT;rw[h1,sa,dc];match vs,l',h4,h5 with
 |[],l',h4,h5=>
  obtain rfl:=ua h4;obtain⟨e,hc⟩:=h5;exact⟨by rw[<-e];rfl,hc⟩
 |[v],l',h4,h5=>
  rw[va,zb,qa]at h4;cases hv:CX st.own false (BB σ v)with
  |none=>rw[hv]at h4;cases h4
  |some v'=>
   rw[hv]at h4;obtain rfl:=ua h4;obtain⟨e,hc⟩:=h5;exact⟨by rw[<-e];exact Ano hv,hc⟩
 |v::u::w,l',h4,h5=>
  obtain⟨a,b,c,rfl⟩:=AlC (show Gc (CX st.own false) (BB σ v::BB σ u::w.map (BB σ))=some l' from h4);obtain⟨e,hc⟩:=h5;refine⟨?_,hc⟩;rw[<-e];have h4:Gc (CX st.own false) (BB σ v::BB σ u::w.map (BB σ))=some (a::b::c):=h4;show Option.map AV.j4 (Gc (CX st.own false) (BB σ v::BB σ u::w.map (BB σ)))=_;rw[h4];rfl
def R1:AV->Bool
 |.agg cs=>EM cs
 |v=>ug v
def MH:w_->Bool
 |[]=>true
 |v::r=>bif R1 v then MH r else false
theorem eR{v:AV}(h:R1 v=true):BB σ v=v:=by
 cases v with
 |agg cs=>simp only[R1]at h;simp only[BB,BK,KQ h]
 |_=>first|rfl|cases h
theorem aC{σ:F5}:∀{vs:w_}{i:Nat},MH vs=true->∀j,j7 (CJ i vs) j=BB σ (j7 (CJ i vs) j)
 |[],_,_,_=>rfl
 |v::r,i,h,j=>by
  simp only[MH]at h;cases hv:R1 v<;>simp only[hv,cond_true,cond_false]at h
  ·cases h
  ·simp only[AkD,cM]
   split
   ·exact(eR hv).symm
   ·exact aC h j
theorem GW.x{f:Nat}{fn:AFn}{vs:w_}{r:AV}(hL:L f=some fn)(hp:za vs.length fn.ch=true)(hd:MH vs=true)(h:AA L [.code fn.body] (CJ 0 vs) [] (QK fn r)):GW L f vs r:=by
 refine GW.fwd hL (BL.1 hp) (Aet (h (λ_ _=>(0,0)) ⟨CJ 0 vs,Own.emp⟩ ⟨λj=>Or.inr ?_,?_⟩) ?_)
 ·rw[L5];exact aC hd j
 ·exact⟨(λ_ _ _ e=>by cases e),(λ_ _ _ e=>by simp[c8,e8]at e),(λ_ _ _ e=>by simp[c8,e8]at e),(λ_ _ _ _ _ _ e=>by simp[c8,e8]at e),(λ_ _ _ e=>by simp[c8,e8]at e)⟩
 ·rintro s ⟨σ,tm,M,hr,hq⟩
  exact uH hr hq
theorem Ev.x{f:Nat}{fn:AFn}{vs:w_}{r:AV}(hL:L f=some fn)(hp:za vs.length fn.ch=true)(hd:MH vs=true)(h:AA L [.code fn.body] (CJ 0 vs) [] (QK fn r))(hs:fn.rn=false:=by rfl):Ev L f vs r:=(GW.x hL hp hd h).ev hL hs
def GR:List (Nat×Nat)->Nat->Nat
 |[],k=>k
 |(a,b)::r,k=>bif za k a then b else GR r k
def jB(τ:List (Nat×Nat)):AV->AV
 |.row k t z o n=>.row (GR τ k) t z o n
 |.ptr k t i j=>.ptr (GR τ k) t i j
 |.mp k t=>.mp (GR τ k) t
 |v=>v
def UQ(τ:List (Nat×Nat)):w_->w_
 |[]=>[]
 |v::r=>jB τ v::UQ τ r
def Y1(τ:List (Nat×Nat)):AV->AV
 |.agg cs=>.agg (UQ τ cs)
 |.fn p f g cs=>.fn p f g (UQ τ cs)
 |v=>jB τ v
def jD(τ:List (Nat×Nat)):w_->w_
 |[]=>[]
 |v::r=>Y1 τ v::jD τ r
def jC(τ:List (Nat×Nat)):AV->AV
 |.j4 cs=>.j4 (jD τ cs)
 |v=>Y1 τ v
def jE(τ:List (Nat×Nat)):v_->v_
 |[]=>[]
 |v::r=>UQ τ v::jE τ r
def LY(τ:List (Nat×Nat)):BA->BA
 |.bx cs=>.bx (UQ τ cs)
 |.rw z es=>.rw z es
 |.bs z es=>.bs z (jE τ es)
 |.mx rows=>.mx rows
 |.hx i v rows=>.hx i v rows
 |.vw w rows=>.vw w rows
variable {τ:List (Nat × Nat)}
theorem bY:∀l:w_,UQ τ l=l.map (jB τ)
 |[]=>rfl
 |v::r=>by rw[UQ,bY r];rfl
theorem Xe:∀l:w_,jD τ l=l.map (Y1 τ)
 |[]=>rfl
 |v::r=>by rw[jD,Xe r];rfl
theorem jV(v:AV):A7 (λk t=>σ (GR τ k) t) v=A7 σ (jB τ v):=by cases v<;>rfl
theorem sF(v:AV):BK (λk t=>σ (GR τ k) t) v=BK σ (Y1 τ v):=by
 cases v with
 |agg cs=>simp only[BK,Y1,bY,vb];exact congrArg AV.agg (Oa λv _=>jV v)
 |fn p f g cs=>simp only[BK,Y1,bY,vb];exact congrArg (AV.fn p f g) (Oa λv _=>jV v)
 |_=>rfl
theorem AnB(v:AV):BB (λk t=>σ (GR τ k) t) v=BB σ (jC τ v):=by
 cases v with
 |j4 cs=>simp only[BB,jC,Xe,vb];exact congrArg AV.j4 (Oa λv _=>sF v)
 |agg cs=>exact sF (.agg cs)
 |fn p f g cs=>exact sF (.fn p f g cs)
 |_=>rfl
theorem Ve:∀l:v_,jE τ l=l.map (UQ τ)
 |[]=>rfl
 |v::r=>by rw[jE,Ve r];rfl
theorem bG{k:Nat}:∀(rows:List (p_))(i:Nat),CE (λk t=>σ (GR τ k) t) k i rows=CE σ (GR τ k) i rows
 |[],i=>rfl
 |none::r,i=>by rw[CE,CE,bG r]
 |some (z,es)::r,i=>by rw[CE,CE,bG r]
theorem Agn(c:BA)(k:Nat):c.c9 (λk t=>σ (GR τ k) t) k=(LY τ c).c9 σ (GR τ k):=by
 cases c with
 |bx cs=>
  simp only[BA.c9,LY,bY,Ha,vb];rw[Oa λv _=>jV v];rfl
 |rw z es=>rfl
 |bs z es=>
  simp only[BA.c9,LY,Ve,vb];congr 1;refine Oa λcs _=>?_
  simp only[Ed,bY,vb];exact Oa λv _=>jV v
 |mx rows=>simp only[BA.c9,LY,bG]
 |hx i v rows=>simp only[BA.c9,LY,bG]
 |vw w rows=>simp only[BA.c9,LY,bG]
def wc(k s:Nat)(c:BA):Mem->Mem
 |[]=>[(k,s,c)]
 |(j,s',c')::r=>bif za k j then(k,s,c)::r else(j,s',c')::wc k s c r
def td:Mem->Mem
 |[]=>[]
 |(k,s,c)::r=>wc k s c (td r)
def YN:Mem->(Mem->Prop)->Prop
 |[],K=>K []
 |(k,s,c)::r,K=>YN r λr'=>fM (wc k s c r') K
theorem gW:∀(M:Mem)(K:Mem->Prop),YN M K=K (td M)
 |[],_=>rfl
 |(k,s,c)::r,K=>by rw[YN,gW r,NS];rfl
theorem Tb(k s:Nat)(c:BA)(j:Nat):∀M:Mem,e8 (wc k s c M) j=bif za j k then some (s,c)else e8 M j
 |[]=>rfl
 |(i,s',c')::r=>by
  simp only[wc];cases hk:za k i
  ·simp only[cond_false,e8,Tb k s c j r]
   cases hj:za j i<;>cases hjk:za j k<;>simp only[cond_true,cond_false];exact absurd ((BL.1 hjk).symm.trans (BL.1 hj)) (FR.1 hk)
  ·obtain rfl:=BL.1 hk
   simp only[cond_true,e8];cases za j k<;>rfl
theorem YO(j:Nat):∀M:Mem,e8 (td M) j=e8 M j
 |[]=>rfl
 |(k,s,c)::r=>by simp only[td,Tb,YO j r,e8]
theorem iC(k t:Nat):c8 (td M) k t=c8 M k t:=by simp only[c8,YO]
def zf(τ:List (Nat×Nat))(M:Mem):List (Nat×Nat×BA)->List (Option (Nat×BA))
 |[]=>[]
 |(k,_,_)::r=>e8 M (GR τ k)::zf τ M r
def zh(τ:List (Nat×Nat)):List (Nat×Nat×BA)->List (Option (Nat×BA))
 |[]=>[]
 |(_,s,c)::r=>some (s,LY τ c)::zh τ r
def Kg(tm:Tm):Tm->w_
 |[]=>[]
 |(j,_)::r=>tg tm j::Kg tm r
def Kh(τ:List (Nat×Nat)):Tm->w_
 |[]=>[]
 |(_,v)::r=>jC τ v::Kh τ r
def iI:u_->Bool
 |[]=>true
 |k::r=>bif K0 k r then false else iI r
def keys(τ:List (Nat×Nat)):Mem->u_
 |[]=>[]
 |(k,_,_)::r=>GR τ k::keys τ r
theorem Sy:∀{M':Mem}{M:Mem},zf τ M M'=zh τ M'->∀k s c,e8 M' k=some (s,c)->e8 M (GR τ k)=some (s,LY τ c)
 |[],_,_,_,_,_,e=>by cases e
 |(i,s',c')::r,M,h,k,s,c,e=>by
  simp only[zf,zh,Cc]at h;simp only[e8]at e;cases hb:za k i<;>simp only[hb,cond_true,cond_false]at e
  ·exact Sy h.2 k s c e
  ·simp only[ya,ga]at e
   obtain⟨rfl,rfl⟩:=e;rw[BL.1 hb];exact h.1
theorem pG:∀{M:Mem}{k s:Nat}{c:BA},e8 M k=some (s,c)->K0 (GR τ k) (keys τ M)=true
 |(i,s',c')::r,k,s,c,e=>by
  simp only[e8]at e;simp only[keys,K0];cases hb:za k i<;>simp only[hb,cond_true,cond_false]at e
  ·rw[pG e];cases za (GR τ k) (GR τ i)<;>rfl
  ·rw[BL.1 hb];simp
theorem Sf:∀{M:Mem},iI (keys τ M)=true->∀{k k' s s':Nat}{c c':BA},e8 M k=some (s,c)->e8 M k'=some (s',c')->GR τ k=GR τ k'->k=k'
 |[],_,_,_,_,_,_,_,e,_,_=>by cases e
 |(i,s0,c0)::r,h,k,k',s,s',c,c',e,e',hk=>by
  simp only[keys,iI]at h;cases hm:K0 (GR τ i) (keys τ r)<;>simp only[hm,cond_true,cond_false]at h
  ·simp only[e8]at e e'
   cases hb:za k i<;>cases j8:za k' i<;>simp only[hb,j8,cond_true,cond_false]at e e'
   ·exact Sf h e e' hk
   ·obtain rfl:=BL.1 j8
    have:=pG (τ:=τ) e
    rw[hk,hm]at this;cases this
   ·obtain rfl:=BL.1 hb
    have:=pG (τ:=τ) e'
    rw[<-hk,hm]at this;cases this
   ·exact(BL.1 hb).trans (BL.1 j8).symm
  ·cases h
theorem Xz:∀{bp:Tm}{tm:Tm},Kg tm bp=Kh τ bp->∀j,tg bp j = .any\/tg tm j=jC τ (tg bp j)
 |[],_,_,_=>Or.inl rfl
 |(i,v)::r,tm,h,j=>by
  simp only[Kg,Kh,Cc]at h;simp only[tg];cases hb:za j i<;>simp only[cond_true,cond_false]
  ·exact Xz h.2 j
  ·rw[BL.1 hb];exact Or.inr h.1
def z7(ts:u_)(tm:Tm):Tm:=match ts with
 |[]=>tm
 |t::ts=>wh (mask 0 (t::ts)) tm
def LL(τ:List (Nat×Nat))(tm:Tm)(M:Mem)(bp:Tm)(M':Mem):Prop :=
 fT (wh 0 bp) λl=>YN M' λm=>Kg tm l=Kh τ l/\zf τ M m=zh τ m/\iI (keys τ m)=true
theorem A9{k:List It}{bp:Tm}{M':Mem}{Q:Tm->Mem->Prop}(τ:List (Nat×Nat))(he:LL τ tm M bp M')(h:AA L k bp M' Q):AA L k tm M Q:=by
 unfold LL at he;rw[YB,gW]at he;obtain⟨ht,hm,hn⟩:=he;intro σ st hr;have hg:∀k s c,e8 M' k=some (s,c)->e8 M (GR τ k)=some (s,LY τ c):=λk s c e=>Sy hm k s c (by rw[YO];exact e)
 have Fz:∀k t c,c8 M' k t=some c->c8 M (GR τ k) t=some (LY τ c):=by
  intro k t c e;obtain⟨s,c0,g1,g2,g3⟩:=JB e;have:=hg k s c0 g1
  cases t with
  |zero=>rw[g2 rfl];exact EA this
  |succ i=>
   obtain⟨rows,z,es,(rfl|⟨a,v,rfl⟩)|⟨w,rfl⟩,hr,rfl⟩:=g3 i rfl
   ·simp[c8,this,LY,hr]
   ·simp[c8,this,LY,hr]
   ·simp[c8,this,LY,hr]
 refine h (λk t=>σ (GR τ k) t) st ⟨λj=>?_,⟨?_,?_,?_,?_,?_⟩⟩
 ·have:=Xz ht j
  rw[cK,lD,cond_false]at this;rcases this with e|e
  ·exact Or.inl e
  ·rcases hr.tm j with e'|e'
   ·left
    rw[e']at e;cases hv:tg bp j<;>rw[hv]at e<;>first|rfl|cases e
   ·right
    rw[e',e,AnB]
 ·intro k s c e;exact hr.sat.site _ _ _ (hg k s c e)
 ·intro k t c e;rw[Agn];exact hr.sat.c9 _ _ _ (Fz k t c e)
 ·intro k t c e;exact hr.sat.old _ _ _ (Fz k t c e)
 ·intro k t k' t' c c' e e' hk
  obtain⟨q1,q2⟩:=hr.sat.inj _ _ _ _ _ _ (Fz _ _ _ e) (Fz _ _ _ e') hk;obtain⟨s,c0,g,_⟩:=JB e;obtain⟨s',c0',g',_⟩:=JB e';exact⟨Sf hn (by rw[YO];exact g) (by rw[YO];exact g') q1,q2⟩
 ·intro k t c e hw
  exact hr.sat.low _ _ _ (Fz k t c e) (by cases c<;>exact hw)
theorem BC{k:List It}{bp:Tm}{M':Mem}{Q:Tm->Mem->Prop}(τ:List (Nat×Nat))(h:AA L k bp M' Q)(he:LL τ tm M bp M':=by(conv=>whnf);exact⟨rfl,rfl,rfl⟩):AA L k tm M Q:=A9 τ he h
theorem tE{k:List It}{Q:Tm->Mem->Prop}(h:AA L k (wh 0 tm) (td M) Q):AA L k tm M Q:=by
 intro σ st hr;refine h σ st ⟨λj=>?_,⟨?_,?_,?_,?_,?_⟩⟩
 ·rw[cK,lD,cond_false];exact hr.tm j
 ·intro k s c e;rw[YO]at e;exact hr.sat.site _ _ _ e
 ·intro k t c e;rw[iC]at e;exact hr.sat.c9 _ _ _ e
 ·intro k t c e;rw[iC]at e;exact hr.sat.old _ _ _ e
 ·intro k t k' t' c c' e e' hk
  rw[iC]at e e';exact hr.sat.inj _ _ _ _ _ _ e e' hk
 ·intro k t c e hw;rw[iC]at e;exact hr.sat.low _ _ _ e hw
def wg(k:Nat)(c:BA):Mem->Mem
 |[]=>[]
 |(j,s,c')::r=>bif za k j then(j,s,c)::r else(j,s,c')::wg k c r
theorem gY{k j s:Nat}{c c':BA}:∀{M:Mem},e8 (wg k c M) j=some (s,c')->∃c0,e8 M j=some (s,c0)/\(c0=c'\/(j=k/\c'=c))
 |[],e=>by cases e
 |(i,s0,c0)::r,e=>by
  simp only[wg]at e;cases hk:za k i<;>simp only[hk,cond_true,cond_false,e8]at e⊢
  ·cases hj:za j i<;>simp only[hj,cond_true,cond_false]at e⊢
   ·exact gY e
   ·exact⟨c',e,Or.inl rfl⟩
  ·cases hj:za j i<;>simp only[hj,cond_true,cond_false]at e⊢
   ·exact⟨c',e,Or.inl rfl⟩
   ·simp only[ya,ga]at e
    obtain⟨rfl,rfl⟩:=e;exact⟨c0,rfl,Or.inr ⟨(BL.1 hj).trans (BL.1 hk).symm,rfl⟩⟩
theorem Aek{kk:List It}{Q:Tm->Mem->Prop}(k s:Nat)(e:e8 M k=some (s,.rw 1 []))(h:AA L kk tm (wg k (.mx []) M) Q):AA L kk tm M Q:=by
 intro σ st hr;have hg:∀j t c,c8 (wg k (.mx []) M) j t=some c->∃c0,c8 M j t=some c0/\c0.c9 σ j=c.c9 σ j:=by
  intro j t c g;obtain⟨s1,c1,g1,g2,g3⟩:=JB g;obtain⟨c0,q1,q2⟩:=gY g1;cases t with
  |zero=>
   rw[g2 rfl];rcases q2 with rfl|⟨rfl,rfl⟩
   ·exact⟨_,EA q1,rfl⟩
   ·rw[e]at q1
    simp only[ya,ga]at q1;obtain⟨rfl,rfl⟩:=q1;exact⟨_,EA e,rfl⟩
  |succ i=>
   obtain⟨rows,z,es,(rfl|⟨a,v,rfl⟩)|⟨w,rfl⟩,Ci,rfl⟩:=g3 i rfl
   ·rcases q2 with rfl|⟨rfl,h0⟩
    ·exact⟨.rw z es,by simp[c8,q1,Ci],rfl⟩
    ·obtain rfl:rows=[]:=by simpa using h0
     simp at Ci
   ·rcases q2 with rfl|⟨rfl,h0⟩
    ·exact⟨.rw z es,by simp[c8,q1,Ci],rfl⟩
    ·cases h0
   ·rcases q2 with rfl|⟨rfl,h0⟩
    ·exact⟨.rw z es,by simp[c8,q1,Ci],rfl⟩
    ·cases h0
 refine h σ st ⟨hr.tm,⟨?_,?_,?_,?_,?_⟩⟩
 ·intro j s' c g
  obtain⟨c0,q1,_⟩:=gY g;exact hr.sat.site _ _ _ q1
 ·intro j t c g
  obtain⟨c0,q1,q2⟩:=hg j t c g;rw[<-q2];exact hr.sat.c9 _ _ _ q1
 ·intro j t c g
  obtain⟨c0,q1,_⟩:=hg j t c g;exact hr.sat.old _ _ _ q1
 ·intro j t j' t' c c' g g' hj
  obtain⟨_,q1,_⟩:=hg j t c g;obtain⟨_,q2,_⟩:=hg j' t' c' g';exact hr.sat.inj _ _ _ _ _ _ q1 q2 hj
 ·intro j t c g hw
  cases t with
  |zero=>
   obtain⟨s1,c1,g1,g2,g3⟩:=JB g;obtain⟨c0,q1,q2⟩:=gY g1;have g2:=g2 rfl;subst g2;rcases q2 with rfl|⟨rfl,rfl⟩
   ·exact hr.sat.low _ _ _ (EA q1) hw
   ·exact hr.sat.low _ _ _ (EA e) rfl
  |succ t=>
   obtain⟨c0,q1,_⟩:=hg _ _ _ g;exact hr.sat.low _ _ _ q1 (Tn q1)
theorem IV{k:List It}{c:BF}{Q:Tm->Mem->Prop}(h:AA L (.code c :: .lp c::k) tm M Q):AA L (.lp c::k) tm M Q:=λσ st hr=>tH.2 (h σ st hr)
theorem XD{α:Type}{k:List It}{c:BF}{Q:Tm->Mem->Prop}(m:α->Nat)(P:α->Prop)(vs:α->Tm)(Ms:α->Mem)(ts:u_)(τ:List (Nat×Nat))(a:α)
  (he:LL τ tm M (vs a++z7 ts tm) (Ms a++M)) (hp:P a)
  (step:∀a,P a->(∀a',m a'<m a->P a'->AA L (.lp c::k) (vs a'++z7 ts tm) (Ms a'++M) Q)->AA L (.code c :: .lp c::k) (vs a++z7 ts tm) (Ms a++M) Q):AA L (.lp c::k) tm M Q:=by
 have key:∀n a,m a<n->P a->AA L (.lp c::k) (vs a++z7 ts tm) (Ms a++M) Q:=by
  intro n;induction n with
  |zero=>intro a h;omega
  |succ n ih=>
   intro a ha hp;exact IV (step a hp λa' h1 h2=>ih a' O' h2)
 exact A9 τ he (key (m a+1) a O' hp)
end
end Go.Eng
