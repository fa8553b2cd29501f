/-
  Linear systems, plain: steps of rows, what they keep, and what a matrix of steps tells.
-/
import Derived.Test.YtckpiejepaconaaGreatB3
import Derived.Test.YtckpiejepaconaaGreatB1
set_option linter.unusedSimpArgs false
set_option linter.unusedVariables false
set_option linter.unnecessarySimpa false
set_option maxHeartbeats 8000000
open Int renaming toNat_natCast->Gb,mul_ediv_cancel_left->Ed,natAbs_mul->Bd,natCast_mul->Te,eq_ofNat_of_zero_le->Oe,natCast_add->gg,natAbs_neg->Ug,natAbs_natCast->Pg,mul_neg->fh,add_zero->ni,sub_eq_add_neg->Oi,ofNat_dvd_left->Ni,natAbs_add_le->Di,mul_zero->jj,neg_mul->cj,gcd->Vj
open List renaming getD_eq_getElem?_getD->ta,replicate->Wa,drop_zero->Wb,getElem?_set->Ub,drop_of_length_le->Sb,getElem?_of_mem->Fb,length_take->yc,getElem?_eq_none->uc,length_set->ec,drop_set_of_lt->Vc,mem_cons_of_mem->Pc,drop_eq_getElem_cons->Ic,length_cons->xd,mem_cons_self->td,getElem?_append_left->Td,map->Od,length_append->ze,getElem?_set_self->ye,getElem?_append_right->te,mem_append->fe,getElem?_map->Le,length_singleton->Je,length_replicate->He,getElem?_set_ne->Ge,length_map->De,mem_map->Be,take->pf,range->lf,mem_singleton->ef,mem_cons->Nf,zipWith_cons_cons->Kf,getElem?_zipWith->lg,drop_succ_cons->Tg,getElem?_drop->Sg,ext_getElem?->Og,eq_nil_of_length_eq_zero->Hg,headD_cons->lh,tail_cons->ch,getElem?_zip_eq_some->Vh,map_cons->Sh,zipWith->Mh,length_eq_one_iff->Lh,take_append_drop->wi,mem_append_right->ui,mem_append_left->ki,mem_flatten->Ki,cons_append->Ji,take_zero->vj
open Nat renaming le_refl->na,pow_succ->Hb,mul_le_mul_left->zc,add_zero->xc,mul_comm->oc,mul_add->fc,gcd->Wc,pow_le_pow_right->Uc,mod_lt->Qc,mul_zero->Oc,two_pow_pos->Nc,div_eq_of_lt->Hc,pow_add->yd,lt_of_lt_of_le->cd,eq_zero_or_pos->Vd,div_lt_iff_lt_mul->Ud,le_trans->Kd,mul_assoc->Hd,mod_eq_of_lt->Cd,zero_add->oe,min_eq_left->Ve,sub_zero->Ke,pow_mul->Ee,div_add_mod->Ce,mul_lt_mul_of_pos_right->vf,one_mul->Tf,lt_trichotomy->Sf,mul_mod_left->Lf,zero_mul->Cf,mul_add_mod->vg,mul_add_div->pg,zero_le->cg,mul_le_mul->Wg,gcd_zero_right->Qg,pow_zero->Lg,le_of_lt->Kg,add_comm->Jg,add_mul->ph,lt_irrefl->Rh,gcd_pos_of_pos_right->Ph,add_assoc->Oh,succ_mul->Bh,lt_or_ge->Ah,pow_pos->Vi,mul_one->Ui,pow_le_pow_left->Si,lt_succ_of_lt->Li,zero_div->qj,lt_trans->oj,gcd_comm->nj,mul_pos->ij,beq->Wj
open Option renaming some.inj->Cb,some.injEq->Uf,map_some->Ig,getD_some->Ti
open Prod renaming mk.injEq->tj
open Rat renaming div_def->Ab,zero_mul->Gc,mul_one->Cc,div_mul_cancel->od,mul_eq_zero->Sd,intCast_mul->Qd,divInt_ofNat->Dd,mul_assoc->ve,add_zero->pe,intCast_natCast->ie,sub_eq_add_neg->Re,mul_zero->yf,mul_inv_cancel->Vf,pow_succ->Gf,divInt->Ef,natCast_mul->yg,pow_zero->Mg,one_mul->Eg,neg_mul->vh,intCast_inj->dh,zero_add->Ih,neg_num->ai,neg_den->Wi,num_divInt_den->Ri,divInt_eq_div->Mi,intCast_add->Ci
namespace Go.j4
def JS (m:Y_) (X:Z_):Prop := ∀ r∈m,B4 r X=0
def comb (p f l:Rat) (r t:Z_):Z_:=Mh (λ x y=>(x*p-y*f)/l) r t
theorem wP {p f l:Rat} {r t:Z_} (h:r.length=t.length):(comb p f l r t).length=r.length:=by simp [comb,h]
theorem rB (p f l:Rat) : ∀ (r t X:Z_),r.length=t.length->B4 (comb p f l r t) X=(p*B4 r X-f*B4 t X)/l
 | [],[],X,_=>by
  show B4 [] X=_;simp only[B4,Ab];grind
 | x::r,y::t,[],_=>by
  simp only[comb,Kf,B4,Ab];grind
 | x::r,y::t,z::X,h=>by
  have ih:=rB p f l r t X (by simpa using h);simp only[comb]at ih;simp only[comb,Kf,B4,ih,Ab];grind
theorem Alv {p f l:Rat} {r t:Z_} {j:Nat} {x y:Rat} (hx:r[j]? = some x) (hy:t[j]? = some y):(comb p f l r t)[j]? = some ((x*p-y*f)/l):=by
 simp [comb,lg,hx,hy]
theorem W9 {m:Y_} {i:Nat} {x r:Z_} (h:r∈m.set i x):r=x \/ ∃ j,j≠i/\m[j]? = some r:=by
 obtain ⟨j,hj⟩:=Fb h;rw[Ub]at hj;by_cases e:i=j
 ·subst e
  rw[if_pos rfl]at hj;split at hj
  ·exact Or.inl (Cb hj).symm
  ·cases hj
 ·rw[if_neg e]at hj
  exact Or.inr ⟨j,Ne.symm e,hj⟩
theorem Ae0 {m:Y_} {i k:Nat} {r t:Z_} {p f l:Rat} (hi:m[i]? = some r) (hk:m[k]? = some t) (uk:k≠i) (hl:r.length=t.length) (hp:p≠0) (h0:l≠0) (X:Z_):JS (m.set i (comb p f l r t)) X↔JS m X:=by
 have hc:=rB p f l r t X hl;have dw:=(zS hi).1;constructor
 ·intro h r' nh
  have ht:B4 t X=0:=h t (by
   refine zM (i:=k) ?_;rw[Ub,if_neg (Ne.symm uk)];exact hk)
  have hn:B4 (comb p f l r t) X=0:=h _ (zM (i:=i) (by rw[Ub,if_pos rfl,if_pos dw]));rw[hc,ht]at hn;have z7:B4 r X=0:=by
   have e1:=od h0 (a:=p*B4 r X-f*0);rw[hn]at e1;have e2:p*B4 r X=0:=v_
   rcases Sd.1 e2 with h|h
   ·exact absurd h hp
   ·exact h
  obtain ⟨j,hj⟩:=Fb nh;by_cases e:j=i
  ·subst e
   obtain rfl:=Cb (hi.symm.trans hj);exact z7
  ·exact h r' (zM (i:=j) (by rw[Ub,if_neg (Ne.symm e)];exact hj))
 ·intro h r' nh
  rcases W9 nh with rfl|⟨j,_,hj⟩
  ·rw[hc,h r (zM hi),h t (zM hk),Ab];grind
  ·exact h r' (zM hj)
theorem AeZ {m:Y_} {i k:Nat} {a b:Z_} (hi:m[i]? = some a) (hk:m[k]? = some b) (X:Z_):JS ((m.set i b).set k a) X↔JS m X:=by
 have dw:=(zS hi).1;have Ae:=(zS hk).1;constructor
 ·intro h r hr
  obtain ⟨j,hj⟩:=Fb hr;by_cases e1:j=k
  ·subst e1
   obtain rfl:=Cb (hk.symm.trans hj);by_cases e2:i=j
   ·subst e2
    obtain rfl:=Cb (hi.symm.trans hk);exact h _ (zM (i:=i) (by rw[Ub,if_pos rfl,ec,if_pos dw]))
   ·exact h _ (zM (i:=i) (by rw[Ub,if_neg (Ne.symm e2),Ub,if_pos rfl,if_pos dw]))
  ·by_cases e2:j=i
   ·subst e2
    obtain rfl:=Cb (hi.symm.trans hj);exact h _ (zM (i:=k) (by rw[Ub,if_pos rfl,ec,if_pos Ae]))
   ·exact h _ (zM (i:=j) (by rw[Ub,if_neg (Ne.symm e1),Ub,if_neg (Ne.symm e2)];exact hj))
 ·intro h r hr
  rcases W9 hr with rfl|⟨j,_,hj⟩
  ·exact h _ (zM hi)
  ·rcases W9 (zM hj) with rfl|⟨q,_,hq⟩
   ·exact h _ (zM hk)
   ·exact h _ (zM hq)
structure GW (m:Y_) (W c:Nat) (P:a_):Prop where
 lr : ∀ r∈m,r.length=W
 pl:P.length<=m.length
 inc : ∀ i j p q:Nat,i<j->P[i]? = some p->P[j]? = some q->p<q
 pb : ∀ p∈P,p<c
 nz : ∀ (i p:Nat) (r:Z_),P[i]? = some p->m[i]? = some r->r.getD p 0≠0 /\ ∀ j,j<p->r.getD j 0=0
 zr : ∀ (i:Nat) (r:Z_),P.length<=i->m[i]? = some r -> ∀ j,j<c->r.getD j 0=0
theorem GW.start {m:Y_} {W:Nat} (h : ∀ r∈m,r.length=W):GW m W 0 [] :=
 ⟨h,cg _,λ i j p q _ h=>by simp at h,(λ p h=>by cases h),(λ i p r h=>by simp at h),λ i r _ _ j hj=>absurd hj D'⟩
theorem GW.skip {m:Y_} {W c:Nat} {P:a_} (h:GW m W c P) (hz : ∀ i r,P.length<=i->m[i]? = some r->r.getD c 0=0):GW m W (c+1) P :=
 ⟨h.lr,h.pl,h.inc,λ p hp=>Li (h.pb p hp),h.nz,λ i r hi hr j hj=>by
  by_cases e:j=c
  ·subst e;exact hz i r hi hr
  ·exact h.zr i r hi hr j D'⟩
theorem GW.swap {m:Y_} {W c i k:Nat} {P:a_} {a b:Z_} (h:GW m W c P) (hi:m[i]? = some a) (hk:m[k]? = some b) (h1:P.length<=i) (h2:P.length<=k):GW ((m.set i b).set k a) W c P:=by
 have hg : ∀ q,q<P.length->((m.set i b).set k a)[q]? = m[q]? := λ q hq=>by
  rw[Ub,if_neg D',Ub,if_neg D']
 have hm : ∀ q r,P.length<=q->((m.set i b).set k a)[q]? = some r -> ∃ q',P.length<=q'/\m[q']? = some r:=λ q r hq hr=>by
  rw[Ub]at hr;split at hr
  ·split at hr
   ·obtain rfl:=Cb hr;exact ⟨i,h1,hi⟩
   ·cases hr
  ·rw[Ub]at hr
   split at hr
   ·split at hr
    ·obtain rfl:=Cb hr;exact ⟨k,h2,hk⟩
    ·cases hr
   ·exact ⟨q,hq,hr⟩
 refine ⟨λ r hr => ?_,by simpa using h.pl,h.inc,h.pb,λ q p r hp hr => ?_,λ q r hq hr j hj => ?_⟩
 ·rcases W9 hr with rfl|⟨j,_,hj⟩
  ·exact h.lr _ (zM hi)
  ·rcases W9 (zM hj) with rfl|⟨q,_,hq⟩
   ·exact h.lr _ (zM hk)
   ·exact h.lr _ (zM hq)
 ·rw[hg q (zS hp).1]at hr
  exact h.nz q p r hp hr
 ·obtain ⟨q',h3,h4⟩:=hm q r hq hr
  exact h.zr q' r h3 h4 j hj
theorem GW.Bp {m:Y_} {W c:Nat} {P:a_} {t:Z_} (h:GW m W c P) (ht:m[P.length]? = some t) (hn:t.getD c 0≠0) (hz : ∀ i r,P.length<i->m[i]? = some r->r.getD c 0=0):GW m W (c+1) (P++[c]):=by
 have Cp:=(zS ht).1;refine ⟨h.lr,by simp;omega,λ i j p q lu hp hq => ?_,λ p hp => ?_,λ i p r hp hr => ?_,λ i r hi hr j hj => ?_⟩
 ·have jy:=(zS hq).1
  rw[ze,Je]at jy;rw[Td D']at hp;by_cases e:j<P.length
  ·rw[Td e]at hq
   exact h.inc i j p q lu hp hq
  ·rw[te D',show j-P.length=0 by omega]at hq
   obtain rfl:=Cb hq;exact h.pb p (zM hp)
 ·rcases fe.1 hp with hp|hp
  ·exact Li (h.pb p hp)
  ·obtain rfl:=ef.1 hp;omega
 ·by_cases e:i<P.length
  ·rw[Td e]at hp
   exact h.nz i p r hp hr
  ·have dw:=(zS hp).1
   rw[ze,Je]at dw;rw[te D',show i-P.length=0 by omega]at hp;obtain rfl:=Cb hp;obtain rfl:i=P.length:=D'
   obtain rfl:=Cb (ht.symm.trans hr);exact ⟨hn,λ j hj=>h.zr P.length _ (na _) ht j hj⟩
 ·rw[ze,Je]at hi
  by_cases e:j=c
  ·subst e;exact hz i r D' hr
  ·exact h.zr i r D' hr j D'
theorem GW.diag {m:Y_} {W c:Nat} {P:a_} (h:GW m W c P) (hP:P.length=c) : ∀ i p:Nat,P[i]? = some p->p=i:=by
 have up : ∀ d i p:Nat,P[i]? = some p->i+d<c->p+d<c:=by
  intro d;induction d with
  | zero=>intro i p hp _;exact h.pb p (zM hp)
  | succ d ih =>
   intro i p hp hi;obtain ⟨q,hq⟩:=X_ P (i+1);have h1:=h.inc i (i+1) p q D' hp hq;have h2:=ih (i+1) q hq D';omega
 have dn : ∀ i p:Nat,P[i]? = some p->i<=p:=by
  intro i;induction i with
  | zero=>intro p _;omega
  | succ i ih =>
   intro p hp;have dw:=(zS hp).1;obtain ⟨q,hq⟩:=X_ P i;have h1:=h.inc i (i+1) q p D' hq hp;have h2:=ih q hq;omega
 intro i p hp;have dw:=(zS hp).1;have h1:=dn i p hp;have h2:=up (c-1-i) i p hp D';omega
def DL (f:Nat->Rat):Nat->Rat
 | 0=>0
 | n+1=>DL f n+f n
theorem kV {f g:Nat->Rat} : ∀ n,(∀ j,j<n->f j=g j)->DL f n=DL g n
 | 0,_=>rfl
 | n+1,h=>by rw[DL,DL,kV n λ j hj=>h j D',h n D']
theorem kW {f:Nat->Rat} : ∀ n,(∀ j,j<n->f j=0)->DL f n=0
 | 0,_=>rfl
 | n+1,h=>by rw[DL,kW n λ j hj=>h j D',h n D',pe]
theorem Ag7 {f:Nat->Rat} {n:Nat} : ∀ d,(∀ j,n<=j->f j=0)->DL f (n+d)=DL f n
 | 0,_=>rfl
 | d+1,h=>by rw[<-Oh,DL,Ag7 d h,h (n+d) D',pe]
theorem Abv {f:Nat->Rat} {k:Nat} : ∀ n,k<n->(∀ j,j<n->j≠k->f j=0)->DL f n=f k
 | n+1,hk,h=>by
  by_cases e:k=n
  ·subst e
   rw[DL,kW k λ j hj=>h j D' D',Ih]
  ·rw[DL,Abv n D' λ j hj=>h j D',h n D' (Ne.symm e),pe]
theorem Ag8 (R y:Nat->Rat) (v:Rat) (k:Nat) : ∀ n,DL (λ j=>R j*(if j=k then v else y j)) n=DL (λ j=>R j*y j) n+if k<n then R k*(v-y k) else 0
 | 0=>by simp [DL,pe]
 | n+1=>by
  rw[DL,DL,Ag8 R y v k n];by_cases e:n=k
  ·subst e
   rw[if_pos rfl,if_neg (Rh n),if_pos (Nat.lt_succ_self n)];grind
  ·rw[if_neg e]
   by_cases h:k<n
   ·rw[if_pos h,if_pos D'];grind
   ·rw[if_neg h,if_neg D'];grind
theorem Ag6 (f:Nat->Rat) : ∀ n,DL f (n+1)=f 0+DL (λ j=>f (j+1)) n
 | 0=>by simp only[DL];grind
 | n+1=>by rw[DL,Ag6 f n,DL];grind
theorem aM : ∀ (r X:Z_) (n:Nat),r.length<=n->B4 r X=DL (λ j=>r.getD j 0*X.getD j 0) n
 | [],X,n,_=>by rw[kW n λ j _=>p_];rfl
 | x::r,[],n,_=>by rw[jM,kW n λ j _=>p_]
 | x::r,y::X,0,h=>by simp at h
 | x::r,y::X,n+1,h=>by
  rw[Ag6,B4,aM r X n (by simpa using h)];simp
def CK (m:Y_) (i j:Nat):Rat:=(m.getD i []).getD j 0
theorem OD {m:Y_} {i:Nat} {r:Z_} (h:m[i]? = some r) (j:Nat):CK m i j=r.getD j 0:=by
 rw[CK,show m.getD i []=r by rw[ta,h];rfl]
def iZ (R:Nat->Nat->Rat) (c:Nat):Prop := ∀ i,i<c->R i i≠0 /\ ∀ j,j<i->R i j=0
theorem Ahg {R:Nat->Nat->Rat} {c:Nat} (h:iZ R c) (f:Nat->Rat) : ∀ d,d<=c -> ∃ y:Nat->Rat,∀ i,c-d<=i->i<c->DL (λ j=>R i j*y j) c=f i
 | 0,_=>⟨λ_=>0,λ i h1 h2=>absurd h2 D'⟩
 | d+1,hd=>by
  obtain ⟨y,hy⟩:=Ahg h f d D';obtain ⟨k,hk⟩ : ∃ k,k=c-(d+1):=⟨_,rfl⟩;have hkc:k<c:=D'
  refine ⟨λ j=>if j=k then y k+(f k-DL (λ j=>R k j*y j) c)/R k k else y j,λ i h1 h2 => ?_⟩;rw[Ag8 (R i) y _ k c,if_pos hkc];by_cases e:i=k
  ·subst e
   have h0:=(h i hkc).1;have:=od h0 (a:=f i-DL (λ j=>R i j*y j) c)
   grind
  ·rw[hy i D' h2,(h i h2).2 k D'];grind
theorem Ahh {R:Nat->Nat->Rat} {c:Nat} (h:iZ R c) {y:Nat->Rat} (hy : ∀ i,i<c->DL (λ j=>R i j*y j) c=0) : ∀ d,d<=c -> ∀ j,c-d<=j->j<c->y j=0
 | 0,_=>λ j h1 h2=>absurd h2 D'
 | d+1,hd=>λ j h1 h2=>by
  have ih:=Ahh h hy d D';by_cases e:c-d<=j
  ·exact ih j e h2
  ·have h3:=hy j h2
   rw[Abv c h2 λ q hq hn=>by
    by_cases e2:q<j
    ·rw[(h j h2).2 q e2,Gc]
    ·rw[ih q D' hq,yf]]at h3
   rcases Sd.1 h3 with h4|h4
   ·exact absurd h4 (h j h2).1
   ·exact h4
theorem GW.low {m:Y_} {W c:Nat} {P:a_} (h:GW m W c P) : ∀ i p:Nat,P[i]? = some p->i<=p
 | 0,p,_=>cg p
 | i+1,p,hp=>by
  have dw:=(zS hp).1;obtain ⟨q,hq⟩:=X_ P i;have h1:=h.inc i (i+1) q p D' hq hp;have h2:=h.low i q hq;omega
theorem GW.le {m:Y_} {W c:Nat} {P:a_} (h:GW m W c P):P.length<=c:=by
 cases e:P.length with
 | zero=>exact cg c
 | succ k =>
  obtain ⟨q,hq⟩:=X_ P k;have h1:=h.low k q hq;have h2:=h.pb q (zM hq);omega
theorem GW.wide {m:Y_} {W c n:Nat} {P:a_} (h:GW m W c P) (hP:P.length=m.length) (hn:c<=n):GW m W n P :=
 ⟨h.lr,h.pl,h.inc,λ p hp=>cd (h.pb p hp) hn,h.nz,λ i r hi hr=>by
  have:=(zS hr).1
  omega⟩
theorem Agj {m:Y_} {W i n:Nat} {r X:Z_} (hr:m[i]? = some r) (hl:r.length=W) (hn:n<=W) (hX : ∀ j,n<=j->X.getD j 0=0):B4 r X=DL (λ j=>CK m i j*X.getD j 0) n:=by
 obtain ⟨d,rfl⟩:=Nat.exists_eq_add_of_le hn;rw[aM r X (n+d) D',Ag7 d λ j hj=>by rw[hX j hj,yf]];exact kV n λ j _=>by rw[OD hr]
theorem GW.tri {m:Y_} {W n c:Nat} {P:a_} (h:GW m W n P) (hc : ∀ i,i<c->P[i]? = some i):iZ (CK m) c:=λ i hi=>by
 have h1:=(zS (hc i hi)).1;obtain ⟨r,hr⟩:=X_ m i (cd h1 h.pl);have:=h.nz i i r (hc i hi) hr
 rw[OD hr];exact ⟨this.1,λ j hj=>by rw[OD hr];exact this.2 j hj⟩
theorem GW.full {m:Y_} {W n:Nat} {P:a_} (h:GW m W n P) (hP:P.length=n) (hW:n<=W) {X:Z_} (hk:JS m X) (hX : ∀ j,n<=j->X.getD j 0=0) (j:Nat):X.getD j 0=0:=by
 have hd : ∀ i,i<n->P[i]? = some i:=λ i hi=>by
  obtain ⟨q,hq⟩:=X_ P i;rw[hq,h.diag hP i q hq]
 have ht:=h.tri hd;by_cases e:j<n
 ·refine Ahh ht (y:=λ j=>X.getD j 0) (λ i hi => ?_) n (na n) j D' e
  obtain ⟨r,hr⟩:=X_ m i (by have:=h.pl;omega);rw[<-Agj hr (h.lr r (zM hr)) hW hX];exact hk r (zM hr)
 ·exact hX j D'
theorem GW.gap {m:Y_} {W n:Nat} {P:a_} (h:GW m W n P) : ∀ c:Nat,c<=P.length->(∀ i:Nat,i<c->P[i]? = some i) \/ ∃ k,(∀ i,i<k->P[i]? = some i) /\ ∃ p:Nat,P[k]? = some p/\k<p
 | 0,_=>Or.inl λ i hi=>absurd hi D'
 | c+1,hc=>by
  rcases h.gap c D' with h1|h1
  ·obtain ⟨q,hq⟩:=X_ P c
   have h2:=h.low c q hq;by_cases e:q=c
   ·subst e
    exact Or.inl λ i hi=>by
     by_cases e:i=q
     ·subst e;exact hq
     ·exact h1 i D'
   ·exact Or.inr ⟨c,h1,q,hq,D'⟩
  ·exact Or.inr h1
theorem fU (f:Nat->Rat) (W j:Nat):((lf W).map f).getD j 0=if j<W then f j else 0:=by
 rw[ta,Le];by_cases h:j<W
 ·rw[List.getElem?_range h,if_pos h];rfl
 ·rw[uc W_,if_neg h];rfl
theorem GW.less {m:Y_} {W n:Nat} {P:a_} (h:GW m W n P) (hP:P.length<n) (hW:n<=W) : ∃ X:Z_,X.length=W/\JS m X/\(∀ j,n<=j->X.getD j 0=0) /\ ∃ j,X.getD j 0≠0:=by
 obtain ⟨c,Bi,hc,hz⟩ : ∃ c,c<n/\(∀ i,i<c->P[i]? = some i) /\ ∀ i r,c<=i->m[i]? = some r -> ∀ j,j<=c->r.getD j 0=0:=by
  rcases h.gap P.length (na _) with h1|⟨k,h1,p,h2,h3⟩
  ·exact ⟨P.length,hP,h1,λ i r hi hr j hj=>h.zr i r hi hr j D'⟩
  ·refine ⟨k,oj h3 (h.pb p (zM h2)),h1,λ i r hi hr j hj => ?_⟩
   by_cases e:i<P.length
   ·obtain ⟨q,hq⟩:=X_ P i e
    refine (h.nz i q r hq hr).2 j ?_;by_cases e2:i=k
    ·subst e2
     obtain rfl:=Cb (h2.symm.trans hq);omega
    ·have:=h.inc k i p q D' h2 hq
     omega
   ·exact h.zr i r D' hr j (by have:=h.pb p (zM h2);omega)
 obtain ⟨y,hy⟩:=Ahg (h.tri hc) (λ i=>CK m i c) c (na c);have hg : ∀ j,((lf W).map λ j=>if j<c then y j else if j=c then (-1:Rat) else 0).getD j 0=if j<c then y j else if j=c then (-1:Rat) else 0:=λ j=>by
  rw[fU];by_cases e:j<W
  ·rw[if_pos e]
  ·rw[if_neg e,if_neg D',if_neg D']
 refine ⟨(lf W).map λ j=>if j<c then y j else if j=c then (-1:Rat) else 0,p_,λ r hr => ?_,λ j hj => ?_,c,?_⟩
 ·obtain ⟨i,hi⟩:=Fb hr
  rw[Agj hi (h.lr r hr) (show c+1<=W by omega) λ j hj=>by rw[hg,if_neg D',if_neg D'],DL,hg,if_neg (Rh c),if_pos rfl];by_cases e:i<c
  ·rw[kV c (g:=λ j=>CK m i j*y j) λ j hj=>by rw[hg,if_pos hj],hy i D' e];grind
  ·rw[kW c λ j hj=>by rw[OD hi,hz i r D' hi j D',Gc],OD hi,hz i r D' hi c (na c),Gc,pe]
 ·rw[hg,if_neg D',if_neg D']
 ·rw[hg,if_neg (Rh c),if_pos rfl]
  decide
def lO (m a:Y_):Prop:=m.length=a.length /\ ∀ (i:Nat) (r:Z_),a[i]? = some r -> ∃ s:Rat,s≠0/\m[i]? = some (r.map (· * s))
theorem fA (x:Rat) : ∀ a b:Z_,B4 (a.map (· * x)) b=B4 a b*x
 | [],b=>by simp [B4]
 | a::l,[]=>by rw[jM,jM,Gc]
 | a::l,b::k=>by
  simp only[Sh,B4,fA x l k];grind
theorem lO.xe {m a:Y_} (h:lO m a) (X:Z_):JS m X↔JS a X:=by
 constructor
 ·intro hk r hr
  obtain ⟨i,hi⟩:=Fb hr;obtain ⟨s,hs,hm⟩:=h.2 i r hi;have:=hk _ (zM hm)
  rw[fA]at this;rcases Sd.1 this with h|h
  ·exact h
  ·exact absurd h hs
 ·intro hk r hr
  obtain ⟨i,hi⟩:=Fb hr;obtain ⟨q,hq⟩:=X_ a i (by have:=(zS hi).1;have:=h.1;omega);obtain ⟨s,hs,hm⟩:=h.2 i q hq;obtain rfl:=Cb (hi.symm.trans hm);rw[fA,hk q (zM hq),Gc]
def GT (a b:Y_):Y_:=Mh (· ++ ·) a b
def NS (n:Nat) (a:Y_):Prop := ∀ X:Z_,X.length=n->JS a X -> ∀ j,X.getD j 0=0
theorem rO : ∀ (u y v z:Z_),u.length=y.length->B4 (u++v) (y++z)=B4 u y+B4 v z
 | [],[],v,z,_=>by simp [B4,Ih]
 | x::u,w::y,v,z,h=>by
  simp only[Ji,B4,rO u y v z (by simpa using h)];grind
theorem sK {a b:Y_} {i:Nat} {r s:Z_} (hr:a[i]? = some r) (hs:b[i]? = some s):(GT a b)[i]? = some (r++s):=by
 simp [GT,lg,hr,hs]
theorem Yt {n:Nat} {a b:Y_} (hl:a.length=b.length) (ha : ∀ r∈a,r.length=n) (y z:Z_) (hy:y.length=n):JS (GT a b) (y++z) ↔ ∀ (i:Nat) (r s:Z_),a[i]? = some r->b[i]? = some s->B4 r y+B4 s z=0:=by
 constructor
 ·intro h i r s hr hs
  rw[<-rO r y s z (by rw[ha r (zM hr),hy])];exact h _ (zM (sK hr hs))
 ·intro h q hq
  obtain ⟨i,hi⟩:=Fb hq;have dw:=(zS hi).1;simp only[GT,List.length_zipWith]at dw;obtain ⟨r,hr⟩:=X_ a i;obtain ⟨s,hs⟩:=X_ b i;obtain rfl:=Cb ((sK hr hs).symm.trans hi);rw[rO r y s z (by rw[ha r (zM hr),hy])];exact h i r s hr hs
theorem AmQ {X:Z_} (h : ∀ j,X.getD j 0=0) (r:Z_):B4 r X=0:=by
 rw[aM r X r.length (na _)];exact kW _ λ j _=>by rw[h,yf]
theorem Af7 {m a b:Y_} {w n:Nat} {P:a_} (h:GW m (n+w) n P) (hk : ∀ X,JS m X↔JS (GT a b) X) (hl:a.length=b.length) (ha : ∀ r∈a,r.length=n):P.length=n↔NS n a:=by
 constructor
 ·intro hP X hX hka j
  have h1:JS m (X++Wa w 0):=(hk _).2 ((Yt hl ha X _ hX).2 λ i r s hr hs=>by
   rw[hka r (zM hr),Adp,pe])
  by_cases e:j<n
  ·have h2:=h.full hP D' h1 (λ j hj=>by
    rw[ta,te D',List.getElem?_replicate];split<;>rfl) j
   rw[ta,Td D']at h2;rw[ta];exact h2
  ·rw[ta,uc D'];rfl
 ·intro gj
  have h1:=h.le;rcases Ah P.length n with hP|hP
  ·exfalso
   obtain ⟨X,hX,hX1,hX2,j,hj⟩:=h.less hP D';have h2:=(hk _).1 hX1;rw[<-wi n X]at h2;have gp:(X.take n).length=n:=by simp;omega
   have h3:=(Yt hl ha _ _ gp).1 h2;have hz : ∀ q,(X.drop n).getD q 0=0:=λ q=>by
    have:=hX2 (n+q) D'
    rw[ta]at this;rw[ta,Sg];exact this
   have h4:=gj (X.take n) gp (λ r hr=>by
    obtain ⟨i,hi⟩:=Fb hr;obtain ⟨s,hs⟩:=X_ b i (by have:=(zS hi).1;omega);have:=h3 i r s hi hs
    rw[AmQ hz,pe]at this;exact this) j
   by_cases e:j<n
   ·rw[ta,List.getElem?_take_of_lt e,<-ta]at h4
    exact hj h4
   ·exact hj (hX2 j D')
  ·omega
def sV (w c:Nat):Z_:=(lf w).map λ q=>if q=c then -1 else 0
theorem Adq {r:Z_} {w c:Nat} (hr:r.length=w) (hc:c<w):B4 r (sV w c) = - r.getD c 0:=by
 rw[aM r _ w D',Abv w hc λ j hj hn=>by rw[sV,fU,if_pos hj,if_neg hn,yf],sV,fU,if_pos hc,if_pos rfl];grind
theorem AcX {m a b:Y_} {w n c:Nat} {y:Z_} (hk : ∀ X,JS m X↔JS (GT a b) X) (hl:a.length=b.length) (ha : ∀ r∈a,r.length=n) (hb : ∀ r∈b,r.length=w) (hc:c<w) (hy:y.length=n) (hm : ∀ r∈m,r.length=n+w) (hs : ∀ r∈m,B4 (r.take n) y=r.getD (n+c) 0) {i:Nat} {r s:Z_} (hr:a[i]? = some r) (hi:b[i]? = some s):B4 r y=s.getD c 0:=by
 have h1:JS m (y++sV w c):=λ q hq=>by
  have Ii:=hm q hq;have e:q=q.take n++q.drop n:=(wi n q).symm;rw[e,rO _ _ _ _ (by rw[yc,hy];omega),hs q hq,Adq (by rw[List.length_drop];omega) hc];have:(q.drop n).getD c 0=q.getD (n+c) 0:=by rw[ta,Sg,<-ta]
  rw[this];grind
 have h2:=(Yt hl ha y _ hy).1 ((hk _).1 h1) i r s hr hi;rw[Adq (hb s (zM hi)) hc]at h2;grind
theorem AsT (n i j:Nat):(JR n i).getD j 0=if j<n then (if j=i then 1 else 0) else 0:=by
 rw[JR,fU];by_cases h:j<n
 ·rw[if_pos h,if_pos h]
  by_cases e:j=i
  ·rw[if_pos e,if_pos D']
  ·rw[if_neg e,if_neg D']
 ·rw[if_neg h,if_neg h]
theorem AsB {a:Y_} {n:Nat} (ha : ∀ r∈a,r.length=n) {X Y:Z_} (hX:X.length=n) (hY:Y.length=n) (h:J4 a X=J4 a Y) (gj:NS n a):X=Y:=by
 have h1:=gj ((lf n).map λ j=>X.getD j 0-Y.getD j 0) p_ (λ r hr=>by
  obtain ⟨i,hi⟩:=Fb hr;have e:B4 r X=B4 r Y:=by
   have:=congrArg (·[i]?) h
   simp only[J4,Le,hi,Ig,Uf]at this;exact this
  have hs : ∀ k,DL (λ j=>r.getD j 0*((lf n).map λ j=>X.getD j 0-Y.getD j 0).getD j 0) k=DL (λ j=>r.getD j 0*X.getD j 0) k-DL (λ j=>r.getD j 0*Y.getD j 0) k:=by
   intro k;induction k with
   | zero=>simp only[DL];grind
   | succ k ih =>
    rw[DL,DL,DL,ih,fU];by_cases e:k<n
    ·rw[if_pos e];grind
    ·rw[if_neg e,ta,ta,ta,uc (show X.length<=k by omega),uc (show Y.length<=k by omega)]
     simp only[Option.getD_none];grind
  rw[aM r _ r.length (na _),hs,<-aM r X _ (na _),<-aM r Y _ (na _),e];grind)
 refine Og λ j => ?_
 by_cases e:j<n
 ·have:=h1 j
  rw[fU,if_pos e]at this;have h2:X.getD j 0=Y.getD j 0:=v_
  rw[ta,ta,zE D',zE D']at h2;rw[zE D',zE D'];exact congrArg some h2
 ·rw[uc D',uc D']
end Go.j4
namespace Go.j4
theorem Bt.Avh {k:Nat} {y:Rat} (h:Bt k y):Bt k y⁻¹:=by
 rw[Rat.inv_def];rcases Int.natAbs_eq y.num with e|e
 ·rw[e,Dd]
  exact Bt.mk (by simpa using h.2) h.1
 ·rw[e,Rat.divInt_neg',Dd]
  exact Bt.mk (by simpa using h.2) h.1
theorem Bt.Gz {k l:Nat} {x y:Rat} (hx:Bt k x) (hy:Bt l y):Bt (k+l) (x/y):=by
 rw[Ab];exact hx.mul hy.Avh
theorem Bt.Fi {k:Nat} {x:Rat} (h:Bt k x):Bt k (-x):=⟨by rw[ai,Ug];exact h.1,by rw[Wi];exact h.2⟩
theorem Bt.yo {k l:Nat} {x y:Rat} (hx:Bt k x) (hy:Bt l y):Bt (k+l+1) (x-y):=by
 rw[Re];exact hx.add hy.Fi
theorem Bt.Rj {k:Nat} {x p y f l:Rat} (hx:Bt k x) (hp:Bt k p) (hy:Bt k y) (hf:Bt k f) (hl:Bt k l):Bt (5*k+1) ((x*p-y*f)/l) :=
 (((hx.mul hp).yo (hy.mul hf)).Gz hl).le D'
theorem wS {p f l:Rat} : ∀ {r t:Z_} {z:Rat},z∈comb p f l r t -> ∃ x∈r,∃ y∈t,z=(x*p-y*f)/l
 | [],_,z,h=>by simp [comb]at h
 | _::_,[],z,h=>by simp [comb]at h
 | x::r,y::t,z,h=>by
  simp only[comb,Kf,Nf]at h;rcases h with h|h
  ·exact ⟨x,td,y,td,h⟩
  ·obtain ⟨a,ha,b,hb,e⟩:=wS (r:=r) (t:=t) h
   exact ⟨a,Pc _ ha,b,Pc _ hb,e⟩
theorem Bs.comb {k:Nat} {r t:Z_} {p f l:Rat} (hr:Bs k r) (ht:Bs k t) (hp:Bt k p) (hf:Bt k f) (hl:Bt k l):Bs (5*k+1) (comb p f l r t):=λ z hz=>by
 obtain ⟨x,hx,y,hy,rfl⟩:=wS hz;exact Bt.Rj (hr x hx) hp (ht y hy) hf hl
theorem wO {p f l:Rat} : ∀ {r t:Z_},r.length=t.length -> ∀ j,(comb p f l r t).getD j 0=(r.getD j 0*p-t.getD j 0*f)/l
 | [],[],_,j=>by simp [comb,Ab,Gc,Re,Rat.neg_zero,pe]
 | x::r,y::t,_,0=>by simp [comb]
 | x::r,y::t,h,j+1=>by
  have:=wO (p:=p) (f:=f) (l:=l) (r:=r) (t:=t) (by simpa using h) j
  simp only[comb]at this;simpa [comb] using this
def YJ (s x:Rat):Rat:=s*(((s*x).den:Nat):Rat)
def FO (r:Z_):Rat:=r.foldl YJ 1
theorem Agt (r:Z_) (x:Rat):FO (r++[x])=YJ (FO r) x:=by rw[FO,List.foldl_append];rfl
theorem Ar3 {s x:Rat} (h:s≠0):YJ s x≠0:=by
 intro e;rcases Sd.1 e with e|e
 ·exact h e
 ·have:=(s*x).den_pos
  have:((s*x).den:Rat)=((0:Nat):Rat):=e
  have:=Rat.natCast_inj.1 this
  omega
theorem Ar4 (r:Z_):FO r≠0:=by
 have : ∀ (r:Z_) (s:Rat),s≠0->r.foldl YJ s≠0:=by
  intro r;induction r with
  | nil=>intro s h;exact h
  | cons x r ih=>intro s h;exact ih _ (Ar3 h)
 exact this r 1 o_
def whole (m:Y_):Y_:=m.map λ r=>r.map (· * FO r)
theorem As9 (m:Y_):lO (whole m) m:=⟨by simp [whole],λ i r hr=>⟨FO r,Ar4 r,by simp [whole,hr]⟩⟩
theorem As8 {m:Y_} {W:Nat} (h : ∀ r∈m,r.length=W) : ∀ r∈whole m,r.length=W:=λ r hr=>by
 obtain ⟨q,hq,rfl⟩:=Be.1 hr;simpa using h q hq
def P1:Y_->a_->Rat
 | r::m,p::P=>r.getD p 0*P1 m P
 | _,_=>1
theorem nR : ∀ m,P1 m []=1
 | []=>rfl
 | _::_=>rfl
theorem tL : ∀ (m:Y_) (P:a_) (i:Nat) (x:Z_),P.length<=i->P1 (m.set i x) P=P1 m P
 | [],_,_,_,_=>rfl
 | _::_,[],_,_,_=>by rw[nR,nR]
 | r::m,p::P,0,x,h=>by simp at h
 | r::m,p::P,i+1,x,h=>by
  rw[List.set_cons_succ,P1,P1,tL m P i x (by simpa using h)]
theorem AfV (c:Nat) (t:Z_) : ∀ (m:Y_) (P:a_),m[P.length]? = some t->P1 m (P++[c])=P1 m P*t.getD c 0
 | [],_,h=>by simp at h
 | r::m,[],h=>by
  obtain rfl:r=t:=by simpa using h
  rw[List.nil_append,P1,nR,nR,Cc,Eg]
 | r::m,p::P,h=>by
  rw[Ji,P1,P1,AfV c t m P (by simpa using h),ve]
structure pS (n W:Nat) (u:Rat) (D:Y_->Rat):Prop where
 sw : ∀ (m:Y_) (i k:Nat) (a b:Z_),m.length=n->(∀ r∈m,r.length=W)->m[i]? = some a->m[k]? = some b->i≠k->D ((m.set i b).set k a) = -D m
 ad : ∀ (m:Y_) (i k:Nat) (r t:Z_) (p f l:Rat),m.length=n->(∀ r∈m,r.length=W)->m[i]? = some r->m[k]? = some t->i≠k->l≠0->D (m.set i (comb p f l r t))=D m*(p/l)
 sc : ∀ (m:Y_) (i:Nat) (r:Z_) (s:Rat),m.length=n->(∀ r∈m,r.length=W)->m[i]? = some r->D (m.set i (r.map (· * s)))=D m*s
 tr : ∀ m:Y_,m.length=n->(∀ r∈m,r.length=W)->iZ (CK m) n->D m=P1 m (lf n)*u
def oP (b:Bool):Rat:=bif b then -1 else 1
theorem Ar7 (b:Bool):oP (!b) = -oP b:=by cases b<;>decide
theorem AfL : ∀ n:Nat,(1:Rat)^n=1
 | 0=>Mg 1
 | n+1=>by rw[Gf,AfL n,Cc]
theorem Af2 {l:Rat} (h:l≠0) : ∀ n:Nat,l^n≠0
 | 0=>by rw[Mg];decide
 | n+1=>by
  rw[Gf];intro e;rcases Sd.1 e with e|e
  ·exact Af2 h n e
  ·exact h e
theorem AqQ {a b c:Rat} (h:c≠0) (e:a*c=b*c):a=b:=by
 have h1:=Vf c h;have:a*c*c⁻¹=b*c*c⁻¹:=by rw[e]
 rwa [ve,ve,h1,Cc,Cc]at this
structure L4 (m0:Y_) (K W n9:Nat) (m:Y_) (P:a_) (c:Nat) (odd:Bool) (l:Rat):Prop where
 bj:GW m W c P
 len:m.length=m0.length
 cc:c<=n9
 l0:l≠0
 xe : ∀ X,JS m X↔JS m0 X
 ms:Ms (6^P.length*K) m
 bl:Bt (6^P.length*K) l
 dt : ∀ (u:Rat) (D:Y_->Rat),pS m0.length W u D->D m*l=oP odd*D m0*P1 m P*l^(m0.length-P.length)
theorem L4.start {m0:Y_} {K W n9:Nat} (h : ∀ r∈m0,r.length=W) (hb:Ms K m0):L4 m0 K W n9 m0 [] 0 false 1 :=
 ⟨GW.start h,rfl,cg _,o_,λ_=>Iff.rfl,by simpa using hb,Bt.one _,λ u D _=>by rw[nR,AfL,Cc,Cc,Cc];exact (Eg _).symm⟩
section
variable {m0 m:Y_} {K W n9 c:Nat} {P:a_} {odd:Bool} {l:Rat}
theorem L4.skip (h:L4 m0 K W n9 m P c odd l) (hc:c<n9) (hz : ∀ (i:Nat) (r:Z_),P.length<=i->m[i]? = some r->r.getD c 0=0):L4 m0 K W n9 m P (c+1) odd l :=
 ⟨h.bj.skip hz,h.len,hc,h.l0,h.xe,h.ms,h.bl,h.dt⟩
theorem L4.swap {i k:Nat} {a b:Z_} (h:L4 m0 K W n9 m P c odd l) (hi:m[i]? = some a) (hk:m[k]? = some b) (h1:P.length<=i) (h2:P.length<=k) (hn:i≠k):L4 m0 K W n9 ((m.set i b).set k a) P c (!odd) l :=
 ⟨h.bj.swap hi hk h1 h2,by simpa using h.len,h.cc,h.l0,λ X=>(AeZ hi hk X).trans (h.xe X),λ r hr=>by
  rcases W9 hr with rfl|⟨j,_,hj⟩
  ·exact h.ms.at hi
  ·rcases W9 (zM hj) with rfl|⟨q,_,hq⟩
   ·exact h.ms.at hk
   ·exact h.ms.at hq,h.bl,λ u D hD=>by
  rw[hD.sw m i k a b h.len h.bj.lr hi hk hn,Ar7,tL _ _ _ _ h2,tL _ _ _ _ h1,vh,h.dt u D hD,vh,vh,vh]⟩
structure YX (m0:Y_) (K W n9:Nat) (P:a_) (c:Nat) (odd:Bool) (l:Rat) (t:Z_) (m:Y_) (i:Nat):Prop where
 bj:GW m W c P
 len:m.length=m0.length
 cc:c<n9
 l0:l≠0
 xe : ∀ X,JS m X↔JS m0 X
 ht:m[P.length]? = some t
 nt:t.getD c 0≠0
 lo : ∀ q r,q<i->m[q]? = some r->Bs (5*(6^P.length*K)+1) r
 hi : ∀ q r,i<=q->m[q]? = some r->Bs (6^P.length*K) r
 bt:Bs (6^P.length*K) t
 bl:Bt (6^P.length*K) l
 z : ∀ q r,P.length<q->q<i->m[q]? = some r->r.getD c 0=0
 dt : ∀ (u:Rat) (D:Y_->Rat),pS m0.length W u D->D m*l*l^(i-P.length-1)=oP odd*D m0*P1 m P*l^(m0.length-P.length)*t.getD c 0^(i-P.length-1)
theorem L4.swp {t:Z_} (h:L4 m0 K W n9 m P c odd l) (hc:c<n9) (ht:m[P.length]? = some t) (hn:t.getD c 0≠0):YX m0 K W n9 P c odd l t m (P.length+1) :=
 ⟨h.bj,h.len,hc,h.l0,h.xe,ht,hn,λ q r _ hr=>(h.ms.at hr).le D',λ q r _ hr=>h.ms.at hr,h.ms.at ht,h.bl,λ q r h1 h2 _=>absurd h1 D',λ u D hD=>by
  rw[show P.length+1-P.length-1=0 by omega,Mg,Mg,Cc,Cc];exact h.dt u D hD⟩
theorem YX.step {t r:Z_} {i:Nat} (h:YX m0 K W n9 P c odd l t m i) (hi:P.length<i) (hr:m[i]? = some r):YX m0 K W n9 P c odd l t (m.set i (comb (t.getD c 0) (r.getD c 0) l r t)) (i+1):=by
 have dw:=(zS hr).1;have hl:r.length=t.length:=by rw[h.bj.lr r (zM hr),h.bj.lr t (zM h.ht)]
 have hg : ∀ j,(comb (t.getD c 0) (r.getD c 0) l r t).getD j 0=(r.getD j 0*t.getD c 0-t.getD j 0*r.getD c 0)/l:=wO hl;have je : ∀ (q:Nat) (x:Z_),(m.set i (comb (t.getD c 0) (r.getD c 0) l r t))[q]? = some x->(q=i/\x=comb (t.getD c 0) (r.getD c 0) l r t)\/(q≠i/\m[q]? = some x):=λ q x hx=>by
  rw[Ub]at hx;by_cases e:i=q
  ·rw[if_pos e,if_pos dw]at hx
   exact Or.inl ⟨e.symm,(Cb hx).symm⟩
  ·rw[if_neg e]at hx
   exact Or.inr ⟨Ne.symm e,hx⟩
 have Se:=h.hi i r (na i) hr;have htc:Bt (6^P.length*K) (t.getD c 0):=by
  have:Ms (6^P.length*K) [t]:=λ x hx=>by obtain rfl:=ef.1 hx;exact h.bt
  exact this.getD 0 c
 have Qf:Bt (6^P.length*K) (r.getD c 0):=by
  have:Ms (6^P.length*K) [r]:=λ x hx=>by obtain rfl:=ef.1 hx;exact Se
  exact this.getD 0 c
 have jt : ∀ j,j<=c->(comb (t.getD c 0) (r.getD c 0) l r t).getD j 0=0:=λ j hj=>by
  rw[hg];by_cases e:j=c
  ·subst e;rw[Ab];grind
  ·rw[h.bj.zr i r D' hr j D',h.bj.zr P.length t (na _) h.ht j D',Ab];grind
 refine ⟨⟨λ x hx => ?_,by simpa using h.bj.pl,h.bj.inc,h.bj.pb,λ q p x hp hx => ?_,λ q x hq hx j hj => ?_⟩,by simpa using h.len,h.cc,h.l0,λ X=>(Ae0 hr h.ht D' hl h.nt h.l0 X).trans (h.xe X),?_,h.nt,λ q x hq hx => ?_,λ q x hq hx => ?_,h.bt,h.bl,λ q x h1 h2 hx => ?_,λ u D hD => ?_⟩
 ·rcases W9 hx with rfl|⟨j,_,hj⟩
  ·rw[wP hl];exact h.bj.lr r (zM hr)
  ·exact h.bj.lr x (zM hj)
 ·have Cs:=(zS hp).1
  rcases je q x hx with ⟨rfl,_⟩|⟨_,hx⟩
  ·omega
  ·exact h.bj.nz q p x hp hx
 ·rcases je q x hx with ⟨rfl,rfl⟩|⟨_,hx⟩
  ·exact jt j D'
  ·exact h.bj.zr q x hq hx j hj
 ·rw[Ub,if_neg D'];exact h.ht
 ·rcases je q x hx with ⟨rfl,rfl⟩|⟨n6,hx⟩
  ·exact Se.comb h.bt htc Qf h.bl
  ·exact h.lo q x D' hx
 ·rcases je q x hx with ⟨rfl,rfl⟩|⟨n6,hx⟩
  ·omega
  ·exact h.hi q x D' hx
 ·rcases je q x hx with ⟨rfl,rfl⟩|⟨n6,hx⟩
  ·exact jt c (na c)
  ·exact h.z q x h1 D' hx
 ·have hd:=h.dt u D hD
  have Sl:=od h.l0 (a:=t.getD c 0);rw[hD.ad m i P.length r t _ _ l h.len h.bj.lr hr h.ht D' h.l0,tL _ _ _ _ D',show i+1-P.length-1=(i-P.length-1)+1 by omega,Gf,Gf];rw[show D m*(t.getD c 0/l)*l*(l^(i-P.length-1)*l)=D m*l*l^(i-P.length-1)*(t.getD c 0/l*l) by grind,hd,Sl,ve]
theorem Af0 (hK:1<=K) (p:Nat):5*(6^p*K)+1<=6^(p+1)*K:=by
 have h1:1<=6^p*K:=ij (Vi D') hK;have e:6^(p+1)*K=6*(6^p*K):=by rw[Hb,oc (6^p) 6,Hd]
 omega
theorem tR {p n B:Nat} (h:6^n*K<=B) (hp:p<=n):6^p*K<=B :=
 Kd (zR K (Uc D' hp)) h
theorem YX.done {t:Z_} {i:Nat} (hK:1<=K) (h:YX m0 K W n9 P c odd l t m i) (hi:i=m.length):L4 m0 K W n9 m (P++[c]) (c+1) odd (t.getD c 0):=by
 have e:(P++[c]).length=P.length+1:=p_
 have h6:=Af0 hK P.length;refine ⟨h.bj.Bp h.ht h.nt λ q r hq hr=>h.z q r hq (hi ▸ (zS hr).1) hr,h.len,h.cc,h.nt,h.xe,?_,?_,λ u D hD => ?_⟩
 ·rw[e]
  intro r hr;obtain ⟨q,hq⟩:=Fb hr;exact (h.lo q r (hi ▸ (zS hq).1) hq).le h6
 ·rw[e]
  have:Ms (6^P.length*K) [t]:=λ x hx=>by obtain rfl:=ef.1 hx;exact h.bt
  exact (this.getD 0 c).le D'
 ·have hd:=h.dt u D hD
  have Cp:=(zS h.ht).1;have hlen:=h.len;rw[AfV c t m P h.ht,e];rw[hi,hlen,show m0.length-P.length=(m0.length-P.length-1)+1 by omega,Gf,Nat.add_sub_cancel]at hd;rw[show m0.length-(P.length+1)=m0.length-P.length-1 by omega];have hp:=Af2 h.l0 (m0.length-P.length-1);generalize l^(m0.length-P.length-1)=x at *;generalize t.getD c 0=p at *;generalize p^(m0.length-P.length-1)=y at *;have h0:=h.l0;have h1:D m=oP odd*D m0*P1 m P*y:=AqQ (c:=l*x) (λ e=>by
   rcases Sd.1 e with e|e
   ·exact h0 e
   ·exact hp e) v_
  rw[h1];grind
end
def HW (c:Nat) (l:Rat):Y_->Nat->Z_
 | [],_=>[]
 | r::m,i=>(r.getD c 0*l-B4 (r.drop (i+1)) (HW c l m (i+1)))/r.getD i 0::HW c l m (i+1)
theorem YY (c:Nat) (l:Rat) : ∀ (m:Y_) (i:Nat),(HW c l m i).length=m.length
 | [],_=>rfl
 | r::m,i=>by rw[HW,xd,YY c l m (i+1),xd]
theorem AmY (r:Z_) (i:Nat) (h:i<r.length):r.drop i=r.getD i 0::r.drop (i+1):=by
 rw[Ic h,ta,zE h];rfl
theorem Acy (c:Nat) (l:Rat) : ∀ (m:Y_) (i k:Nat) (r:Z_),m[k]? = some r->i+k<r.length->r.getD (i+k) 0≠0->B4 (r.drop (i+k)) ((HW c l m i).drop k)=r.getD c 0*l
 | q::m,i,0,r,h,hl,h0=>by
  obtain rfl:q=r:=by simpa using h
  rw[xc]at hl h0 ⊢;rw[AmY q i hl,HW,Wb,B4];have:=od h0 (a:=q.getD c 0*l-B4 (q.drop (i+1)) (HW c l m (i+1)))
  grind
 | q::m,i,k+1,r,h,hl,h0=>by
  rw[HW,Tg,show i+(k+1)=i+1+k by omega];exact Acy c l m (i+1) k r (by simpa using h) D' (by rw[show i+1+k=i+(k+1) by omega];exact h0)
 | [],_,_,_,h,_,_=>by simp at h
theorem Adn : ∀ (i:Nat) (r x:Z_),(∀ j,j<i->r.getD j 0=0)->B4 r x=B4 (r.drop i) (x.drop i)
 | 0,_,_,_=>rfl
 | i+1,[],x,_=>by simp [B4]
 | i+1,r::rs,[],_=>by rw[jM,List.drop_nil,jM]
 | i+1,r::rs,x::xs,h=>by
  have h0:r=0:=by simpa using h 0 D'
  rw[B4,h0,Gc,Ih,Tg,Tg];exact Adn i rs xs λ j hj=>by simpa using h (j+1) D'
theorem AkM {c n:Nat} {l:Rat} {m:Y_} (hn : ∀ r∈m,n<=r.length) (hm:m.length=n) (ht:iZ (CK m) n) (r:Z_) (hr:r∈m):B4 r (HW c l m 0)=r.getD c 0*l:=by
 obtain ⟨k,hk⟩:=Fb hr;have Ae:=(zS hk).1;have h1:=ht k D';have h2:=Acy c l m 0 k r hk (by have:=hn r hr;omega) (by rw[oe,<-OD hk];exact h1.1);rw[Adn k r _ λ j hj=>by rw[<-OD hk];exact h1.2 j hj,<-h2,oe]
theorem AmR {k l:Nat} {a b:Z_} (ha:Bs k a) (hb:Bs l b) {n:Nat} (hn:b.length<=n):Bt (n*(k+l+1)) (B4 a b):=by
 rw[OR];exact (hb.dot ha).le (Kd (zR _ hn) (Nat.le_of_eq (by rw[Jg l k])))
end Go.j4

namespace Go.j4
structure Pt where
 x:Rat
 y:Rat
 w:Rat
def AsF (g:List Pt) (f:Pt->Rat):Rat:=g.foldl (λ s p=>s+f p) 0
def rhs (g:List Pt) (k:Nat):Rat:=AsF g λ p=>p.w*p.x^k*p.y
def Wh (k:Nat) (x:Rat):Prop := ∃ z:Int,x=(z:Rat)/\z.natAbs<=2^k
theorem Wh.le {k l:Nat} {x:Rat} (h:Wh k x) (hl:k<=l):Wh l x:=by
 obtain ⟨z,e,b⟩:=h;exact ⟨z,e,Kd b (Uc D' hl)⟩
theorem Wh.mul {k l:Nat} {x y:Rat} (hx:Wh k x) (hy:Wh l y):Wh (k+l) (x*y):=by
 obtain ⟨z,rfl,b⟩:=hx;obtain ⟨u,rfl,c⟩:=hy;exact ⟨z*u,by rw[Qd],by rw[Bd,yd];exact Wg b c⟩
theorem Wh.add {k:Nat} {x y:Rat} (hx:Wh k x) (hy:Wh k y):Wh (k+1) (x+y):=by
 obtain ⟨z,rfl,b⟩:=hx;obtain ⟨u,rfl,c⟩:=hy;refine ⟨z+u,by rw[Ci],?_⟩;rw[Hb];have:=Di z u
 omega
theorem Wh.neg {k:Nat} {x:Rat} (hx:Wh k x):Wh k (-x):=by
 obtain ⟨z,rfl,b⟩:=hx;exact ⟨-z,by rw[Rat.intCast_neg],by rw[Ug];exact b⟩
theorem Wh.sub {k:Nat} {x y:Rat} (hx:Wh k x) (hy:Wh k y):Wh (k+1) (x-y):=by
 rw[Re];exact hx.add hy.neg
theorem Wh.zero (k:Nat):Wh k 0:=⟨0,rfl,cg _⟩
theorem Wh.one (k:Nat):Wh k 1:=⟨1,rfl,Nat.one_le_two_pow⟩
theorem Wh.bt {k:Nat} {x:Rat} (h:Wh k x):Bt k x:=by
 obtain ⟨z,rfl,b⟩:=h;exact Bt.ofInt b
theorem Wh.dot {k l:Nat} : ∀ {a b:Z_},(∀ x∈a,Wh k x)->(∀ x∈b,Wh l x)->Wh (k+l+a.length) (B4 a b)
 | [],b,_,_=>by cases b<;>exact Wh.zero _
 | x::a,[],_,_=>Wh.zero _
 | x::a,y::b,ha,hb=>by
  rw[B4,xd,<-Oh];exact (((ha x td).mul (hb y td)).le D').add (Wh.dot (λ z hz=>ha z (Pc _ hz)) λ z hz=>hb z (Pc _ hz))
theorem bH (y:Rat):y*(y.den:Rat)=(y.num:Rat):=by
 have h:=Ri y;rw[Mi]at h;have h0:((y.den:Int):Rat)≠0:=λ e=>by
  have:((y.den:Int):Rat)=((0:Int):Rat):=e
  have:=dh.1 this
  have:=y.den_pos
  omega
 have h2:=od h0 (a:=(y.num:Rat));rw[h,ie]at h2;exact h2
theorem rK {y:Rat} {T:Nat} {z:Int} (h:(T:Rat)*y=(z:Rat)):y.den ∣ T:=by
 have h1:y*(y.den:Rat)=(y.num:Rat):=bH y;have h2:(((T:Int)*y.num:Int):Rat)=((z*(y.den:Int):Int):Rat):=by
  rw[Qd,Qd,<-h1,<-h,ie,ie,ve]
 have h3:=dh.1 h2;have h4:(y.den:Int) ∣ (T:Int)*y.num:=⟨z,by rw[h3,Int.mul_comm]⟩;have h5:y.den ∣ T*y.num.natAbs:=by
  have:=Int.natAbs_dvd_natAbs.2 h4
  simpa [Bd] using this
 exact Nat.Coprime.dvd_of_dvd_mul_right (Nat.Coprime.symm y.reduced) h5
theorem Ar2 {S M:Nat} {x:Rat} (hS:S ∣ M) (hM : ∃ z:Int,(M:Rat)*x=(z:Rat)) : ∃ S':Nat,YJ (S:Rat) x=(S':Rat)/\S' ∣ M/\S ∣ S' /\ ∃ z:Int,(S':Rat)*x=(z:Rat):=by
 obtain ⟨T,rfl⟩:=hS;obtain ⟨z,hz⟩:=hM;have h1:((S:Rat)*x).den ∣ T:=rK (z:=z) (by rw[<-hz,yg];grind);have h2:((S:Rat)*x)*((((S:Rat)*x).den:Nat):Rat)=(((S:Rat)*x).num:Rat):=bH _;generalize ((S:Rat)*x).num=u at h2;refine ⟨S*((S:Rat)*x).den,?_,Nat.mul_dvd_mul_left S h1,Nat.dvd_mul_right _ _,u,?_⟩
 ·rw[YJ,yg]
 ·rw[yg];grind
theorem Agq {M:Nat} : ∀ (l:Z_) (S:Nat),S ∣ M->(∀ x∈l,∃ z:Int,(M:Rat)*x=(z:Rat)) -> ∃ S':Nat,l.foldl YJ (S:Rat)=(S':Rat)/\S' ∣ M/\S ∣ S' /\ ∀ x∈l,∃ z:Int,(S':Rat)*x=(z:Rat)
 | [],S,hS,_=>⟨S,rfl,hS,Nat.dvd_refl S,λ x hx=>by cases hx⟩
 | x::l,S,hS,h=>by
  obtain ⟨S1,e1,d1,d2,z,hz⟩:=Ar2 hS (h x td);obtain ⟨S2,e2,d3,d4,h2⟩:=Agq l S1 d1 λ y hy=>h y (Pc _ hy)
  refine ⟨S2,by rw[List.foldl_cons,e1,e2],d3,Nat.dvd_trans d2 d4,λ y hy => ?_⟩;rcases Nf.1 hy with rfl|hy
  ·obtain ⟨k,rfl⟩:=d4
   exact ⟨z*(k:Int),by rw[yg,Qd,<-hz,ie];grind⟩
  ·exact h2 y hy
theorem Ar5 {M:Nat} {l:Z_} (h : ∀ x∈l,∃ z:Int,(M:Rat)*x=(z:Rat)) : ∃ S:Nat,FO l=(S:Rat)/\S ∣ M /\ ∀ x∈l,∃ z:Int,x*FO l=(z:Rat):=by
 obtain ⟨S,e,d,_,h2⟩:=Agq l 1 (Nat.one_dvd M) h;refine ⟨S,e,d,λ x hx => ?_⟩;obtain ⟨z,hz⟩:=h2 x hx;exact ⟨z,by rw[Rat.mul_comm,<-hz];congr 1⟩
def KI:Nat->Nat->Nat
 | 0,_=>0
 | n+1,k=>KI n (2*k+1)+k+n+1
theorem AeR : ∀ (n k:Nat) (l:List (List Rat × Rat)),l.length=n->(∀ p∈l,p.1.length=n/\(∀ x∈p.1,Wh k x)/\Wh k p.2)->(∀ X:Z_,X.length=n->(∀ p∈l,B4 p.1 X=0) -> ∀ z∈X,z=0) ->
  ∃ (N:Rat) (v:Z_),N≠0/\Wh (KI n k) N/\v.length=n/\(∀ x∈v,Wh (KI n k) x) /\ ∀ p∈l,B4 p.1 v=N*p.2
 | 0,k,l,hl,_,_=>⟨1,[],o_,Wh.one _,rfl,(λ x hx=>by cases hx),(λ p hp=>by rw[List.length_eq_zero_iff.1 hl]at hp;cases hp)⟩
 | n+1,k,l,hl,hb,gj=>by
  have rn : ∀ p∈l,∃ (a:Rat) (t:Z_),p.1=a::t/\t.length=n/\Wh k a/\(∀ x∈t,Wh k x):=λ p hp=>by
   obtain ⟨h1,h2,_⟩:=hb p hp;obtain ⟨p1,p2⟩:=p;cases p1 with
   | nil=>simp at h1
   | cons a t=>exact ⟨a,t,rfl,by simpa using h1,h2 a td,λ x hx=>h2 x (Pc _ hx)⟩
  obtain ⟨p,hp,Pz⟩ : ∃ p∈l,p.1.headD 0≠0:=Classical.byContradiction λ Jw=>by
   have:=gj (1::Wa n 0) p_ (λ p hp=>by
    obtain ⟨a,t,e,ht,_,_⟩:=rn p hp;have ha:a=0:=Classical.byContradiction λ h=>Jw ⟨p,hp,by rw[e];exact h⟩
    rw[e,B4,Adp,ha];grind) 1 td
   exact absurd this o_
  obtain ⟨l1,l2,rfl⟩:=List.append_of_mem hp;obtain ⟨a,t,ep,ht,je,Wn⟩:=rn p hp;have Cn:a≠0:=by rw[ep]at Pz;exact Pz
  have Ue:=(hb p hp).2.2;have rh : ∀ q,q∈l1++l2->q∈l1++p::l2:=λ q hq=>by
   rcases fe.1 hq with h|h
   ·exact ki _ h
   ·exact ui _ (Pc _ h)
  have Jq : ∀ q,q∈l1++p::l2->q=p\/q∈l1++l2:=λ q hq=>by
   rcases fe.1 hq with h|h
   ·exact Or.inr (ki _ h)
   ·rcases Nf.1 h with h|h
    ·exact Or.inl h
    ·exact Or.inr (ui _ h)
  obtain ⟨N,v,n1,n2,n3,n4,n5⟩:=AeR n (2*k+1) ((l1++l2).map λ q=>(comb a (q.1.headD 0) 1 q.1.tail t,a*q.2-q.1.headD 0*p.2)) (by
   rw[De,ze];rw[ze,xd]at hl;omega) (λ q' Jy=>by
    obtain ⟨q,hq,rfl⟩:=Be.1 Jy;obtain ⟨c,s,eq,hs,hc,Io⟩:=rn q (rh q hq);have Af:=(hb q (rh q hq)).2.2;simp only[eq,lh,ch];refine ⟨by rw[wP D'];exact hs,λ x hx => ?_,?_⟩
    ·obtain ⟨y,hy,w,hw,rfl⟩:=wS hx
     rw[show (y*a-w*c)/1=y*a-w*c by rw[Ab];grind];exact ((((Io y hy).mul je).sub ((Wn w hw).mul hc))).le D'
    ·exact (((je.mul Af).sub (hc.mul Ue))).le D') (λ X hX hk=>by
    have hz:=gj (-(B4 t X)/a::X) (by rw[xd,hX]) (λ q hq=>by
     have zk:=od Cn (a := -(B4 t X));rcases Jq q hq with rfl|Gd
     ·rw[ep,B4];grind
     ·obtain ⟨c,s,eq,hs,_,_⟩:=rn q hq
      have h1:=hk _ (Be.2 ⟨q,Gd,rfl⟩);simp only[eq,lh,ch]at h1;rw[rB a c 1 s t X D',show (a*B4 s X-c*B4 t X)/1=a*B4 s X-c*B4 t X by rw[Ab];grind]at h1;rw[eq,B4];generalize -(B4 t X)/a=u at *;generalize B4 t X=w at *;generalize B4 s X=y at *;have h2:a*(c*u+y)=0:=v_
      rcases Sd.1 h2 with h|h
      ·exact absurd h Cn
      ·exact h)
    intro z ru;exact hz z (Pc _ ru))
  refine ⟨a*N,(N*p.2-B4 t v)::v.map (a * ·),?_,?_,by rw[xd,De,n3],λ x hx => ?_,λ q hq => ?_⟩
  ·intro e
   rcases Sd.1 e with e|e
   ·exact Cn e
   ·exact n1 e
  ·exact (je.mul n2).le (by rw[KI];omega)
  ·rcases Nf.1 hx with rfl|hx
   ·refine (((n2.mul Ue).le (show KI n (2*k+1)+k<=KI n (2*k+1)+k+n by omega)).sub ((Wh.dot Wn n4).le D')).le (by rw[KI];omega)
   ·obtain ⟨y,hy,rfl⟩:=Be.1 hx
    exact (je.mul (n4 y hy)).le (by rw[KI];omega)
  ·have hm : ∀ s:Z_,B4 s (v.map (a * ·))=a*B4 s v:=λ s=>by rw[OR,eV,OR]
   rcases Jq q hq with rfl|Gd
   ·rw[ep,B4,hm];grind
   ·obtain ⟨c,s,eq,hs,_,_⟩:=rn q hq
    have h1:=n5 _ (Be.2 ⟨q,Gd,rfl⟩);simp only[eq,lh,ch]at h1;rw[rB a c 1 s t v D',show (a*B4 s v-c*B4 t v)/1=a*B4 s v-c*B4 t v by rw[Ab];grind]at h1;rw[eq,B4,hm];grind
theorem AgQ {n k:Nat} {a:Y_} {b c:Z_} (ig:a.length=n) (ud : ∀ r∈a,r.length=n) (ue:b.length=n) (ha : ∀ r∈a,∀ x∈r,Wh k x) (hb : ∀ x∈b,Wh k x) (gj:NS n a) (hc:c.length=n) (h : ∀ (i:Nat) (r:Z_) (s:Rat),a[i]? = some r->b[i]? = some s->B4 r c=s):Bs (2*KI n k) c:=by
 obtain ⟨N,v,n1,n2,n3,n4,n5⟩:=AeR n k (a.zip b) (by rw[List.length_zip];omega) (λ p hp=>by
  obtain ⟨h1,h2⟩:=List.of_mem_zip (a:=p.1) (b:=p.2) hp;exact ⟨ud _ h1,ha _ h1,hb _ h2⟩) (λ X hX hk=>by
  have hz:=gj X hX λ r hr=>by
   obtain ⟨i,hi⟩:=Fb hr;obtain ⟨s,hs⟩:=X_ b i (by have:=(zS hi).1;omega);exact hk (r,s) (zM (i:=i) (by rw[Vh];exact ⟨hi,hs⟩))
  intro z ru;obtain ⟨j,hj⟩:=Fb ru;have:=hz j
  rw[ta,hj]at this;exact this)
 have hNi:=Vf N n1;have e:c=v.map (· * N⁻¹):=AsB ud hc (by rw[De];exact n3) (by
  refine Og λ i => ?_
  simp only[J4,Le];cases hi:a[i]? with
  | none=>rfl
  | some r =>
   obtain ⟨s,hs⟩:=X_ b i (by have:=(zS hi).1;omega);have h5:=n5 (r,s) (zM (i:=i) (by rw[Vh];exact ⟨hi,hs⟩));rw[Ig,Ig,h i r s hi hs,OR,fA,OR,h5];congr 1;grind) gj
 rw[e];intro x hx;obtain ⟨y,hy,rfl⟩:=Be.1 hx;rw[<-Ab];exact ((n4 y hy).bt.Gz n2.bt).le D'
def Bc (f:Rat) (r t:Z_):Z_:=Mh (λ x y=>x-f*y) r t
theorem AcT {f:Rat} {r t:Z_} (h:r.length=t.length):(Bc f r t).length=r.length:=by simp [Bc,h]
theorem Ak7 {f:Rat} {r t:Z_} {j:Nat} {x y:Rat} (hx:r[j]? = some x) (hy:t[j]? = some y):(Bc f r t)[j]? = some (x-f*y):=by
 simp [Bc,lg,hx,hy]
theorem AcS {f:Rat} {r t:Z_} (h:r.length=t.length) (j:Nat):(Bc f r t).getD j 0=r.getD j 0-f*t.getD j 0:=by
 rw[ta,ta,ta];cases hx:r[j]? with
 | none =>
  have h1:=List.getElem?_eq_none_iff.1 hx;rw[uc (by rw[AcT h];exact h1),uc (l:=t) D'];show (0:Rat)=0-f*0;grind
 | some x =>
  have h1:=(zS hx).1;obtain ⟨y,hy⟩:=X_ t j;rw[Ak7 hx hy,hy];rfl
theorem Ada (l:Z_) (p:Rat) (j:Nat):(l.map (· / p)).getD j 0=l.getD j 0/p:=by
 rw[ta,ta,Le];cases l[j]? with
 | none=>show (0:Rat)=0/p;rw[Ab,Gc]
 | some x=>rfl
theorem xN (p:Rat) : ∀ (r X:Z_),B4 (r.map (· / p)) X=B4 r X/p
 | [],X=>by
  show B4 [] X=B4 [] X/p;simp only[B4,Ab];grind
 | x::r,[]=>by simp only[Sh,B4,Ab];grind
 | x::r,z::X=>by
  have ih:=xN p r X;simp only[Ab]at ih;simp only[Sh,B4,ih,Ab];grind
theorem AmT {n i:Nat} {v:Z_} (hv:v.length=n) (hi:i<n):B4 (JR n i) v=v.getD i 0:=by
 have e:=congrArg (λ l=>l.getD i 0) (AqT hv);simp only[J4,zY,List.map_map]at e;rw[fU,if_pos hi]at e;exact e
end Go.j4

namespace Go.j4
theorem GW.v9 {m:Y_} {W c i:Nat} {P:a_} {r r':Z_} (h:GW m W c P) (hi:m[i]? = some r) (hl:r'.length=W) (he : ∀ j,j<c->r'.getD j 0=r.getD j 0):GW (m.set i r') W c P:=by
 have je : ∀ (q:Nat) (x:Z_),(m.set i r')[q]? = some x -> ∃ y,m[q]? = some y /\ ∀ j,j<c->x.getD j 0=y.getD j 0:=λ q x hx=>by
  rw[Ub]at hx;by_cases e:i=q
  ·subst e
   rw[if_pos rfl]at hx;split at hx
   ·obtain rfl:=Cb hx;exact ⟨r,hi,he⟩
   ·cases hx
  ·rw[if_neg e]at hx;exact ⟨x,hx,λ_ _=>rfl⟩
 refine ⟨λ x hx => ?_,by rw[ec];exact h.pl,h.inc,h.pb,λ q p x hp hx => ?_,λ q x hq hx j hj => ?_⟩
 ·rcases W9 hx with rfl|⟨j,_,hj⟩
  ·exact hl
  ·exact h.lr _ (zM hj)
 ·obtain ⟨y,hy,yi⟩:=je q x hx
  have hpc:=h.pb p (zM hp);have:=h.nz q p y hp hy
  exact ⟨by rw[yi p hpc];exact this.1,λ j hj=>by rw[yi j D'];exact this.2 j hj⟩
 ·obtain ⟨y,hy,yi⟩:=je q x hx
  rw[yi j hj];exact h.zr q y hq hy j hj
structure GO (T:Y_) (n w:Nat) (m:Y_) (P:a_) (c:Nat) (d:Rat):Prop where
 bj:GW m w c P
 len:m.length=n
 red : ∀ (i p:Nat),P[i]? = some p -> ∀ (q:Nat) (r:Z_),m[q]? = some r->r.getD p 0=if q=i then 1 else 0
 xe : ∀ X,JS m X↔JS T X
 dt : ∀ (u:Rat) (D:Y_->Rat),pS n w u D->D T=d*D m
theorem GO.start {T:Y_} {n w:Nat} (hl:T.length=n) (hw : ∀ r∈T,r.length=w):GO T n w T [] 0 1 :=
 ⟨GW.start hw,hl,λ i p h=>by simp at h,λ_=>Iff.rfl,λ_ _ _=>(Eg _).symm⟩
section
variable {T:Y_} {n w:Nat} {m:Y_} {P:a_} {c:Nat} {d:Rat}
theorem GO.skip (h:GO T n w m P c d) (hz : ∀ (i:Nat) (r:Z_),P.length<=i->m[i]? = some r->r.getD c 0=0):GO T n w m P (c+1) d :=
 ⟨h.bj.skip hz,h.len,h.red,h.xe,h.dt⟩
theorem GO.v9 {i:Nat} {r r':Z_} {d':Rat} (h:GO T n w m P c d) (hi:m[i]? = some r) (hl:r'.length=w) (he : ∀ j,j<c->r'.getD j 0=r.getD j 0) (hk : ∀ X,JS (m.set i r') X↔JS m X) (hD : ∀ (u:Rat) (D:Y_->Rat),pS n w u D->d*D m=d'*D (m.set i r')):GO T n w (m.set i r') P c d':=by
 refine ⟨h.bj.v9 hi hl he,by rw[ec];exact h.len,λ i2 p hp q x hx => ?_,λ X=>(hk X).trans (h.xe X),λ u D hd=>(h.dt u D hd).trans (hD u D hd)⟩;rw[Ub]at hx;by_cases e:i=q
 ·subst e
  rw[if_pos rfl]at hx;split at hx
  ·obtain rfl:=Cb hx
   rw[he p (h.bj.pb p (zM hp))];exact h.red i2 p hp i r hi
  ·cases hx
 ·rw[if_neg e]at hx
  exact h.red i2 p hp q x hx
theorem GO.scale {t:Z_} {p:Rat} (h:GO T n w m P c d) (hk:m[P.length]? = some t) (hp:p≠0):GO T n w (m.set P.length (t.map (· / p))) P c (d*p):=by
 have Ae:=(zS hk).1;refine h.v9 hk (by rw[De];exact h.bj.lr t (zM hk)) (λ j hj => ?_) (λ X=>⟨λ hw x hx => ?_,λ hw x hx => ?_⟩) (λ u D hd => ?_)
 ·rw[Ada,h.bj.zr P.length t (na _) hk j hj,Ab,Gc]
 ·obtain ⟨q,hq⟩:=Fb hx
  by_cases e:q=P.length
  ·subst e
   cases hk.symm.trans hq;have h1:=hw (t.map (· / p)) (zM (i:=P.length) (by rw[Ub,if_pos rfl,if_pos Ae]));rw[xN]at h1;have h2:B4 t X=B4 t X/p*p:=by rw[Ab,ve,Rat.inv_mul_cancel _ hp,Cc]
   rw[h2,h1,Gc]
  ·exact hw x (zM (i:=q) (by rw[Ub,if_neg (Ne.symm e)];exact hq))
 ·rcases W9 hx with rfl|⟨j,_,hj⟩
  ·rw[xN,hw t (zM hk),Ab,Gc]
  ·exact hw x (zM hj)
 ·have h1:=hd.sc m P.length t p⁻¹ h.len h.bj.lr hk
  rw[show t.map (· * p⁻¹)=t.map (· / p) from List.map_congr_left λ z _=>(Ab z p).symm]at h1;have h2:=Vf p hp;rw[h1];grind
theorem AcR (f:Rat) (r t:Z_):Bc f r t=comb 1 f 1 r t:=by
 unfold Bc comb;congr 1;funext x y
 rw[Ab];grind
theorem GO.Bc {i:Nat} {r t:Z_} (f:Rat) (h:GO T n w m P c d) (hk:m[P.length]? = some t) (hi:m[i]? = some r) (uk:i≠P.length):GO T n w (m.set i (Bc f r t)) P c d:=by
 have ff:=h.bj.lr r (zM hi);have gp:=h.bj.lr t (zM hk);refine h.v9 hi (by rw[AcT D'];exact ff) (λ j hj => ?_) (λ X => ?_) (λ u D hd => ?_)
 ·rw[AcS D',h.bj.zr P.length t (na _) hk j hj,yf]
  grind
 ·rw[AcR]
  exact Ae0 hi hk (Ne.symm uk) D' o_ o_ X
 ·have h1:=hd.ad m i P.length r t 1 f 1 h.len h.bj.lr hi hk uk o_
  rw[AcR,h1,Ab];grind
theorem GO.swap {i:Nat} {r t:Z_} (h:GO T n w m P c d) (hi:m[i]? = some r) (hk:m[P.length]? = some t) (hki:P.length<i):GO T n w ((m.set i t).set P.length r) P c (-d):=by
 have dw:=(zS hi).1;have Ae:=(zS hk).1;refine ⟨h.bj.swap hi hk D' (na _),by rw[ec,ec];exact h.len,λ i2 p hp q x hx => ?_,λ X=>(AeZ hi hk X).trans (h.xe X),λ u D hd => ?_⟩
 ·have zm:=(zS hp).1
  rw[Ub,Ub,ec]at hx;by_cases e1:P.length=q
  ·rw[if_pos e1,if_pos D']at hx
   obtain rfl:=Cb hx;have:=h.red i2 p hp i r hi
   rw[if_neg D']at this;rw[if_neg D'];exact this
  ·rw[if_neg e1]at hx
   by_cases e2:i=q
   ·rw[if_pos e2,if_pos D']at hx
    obtain rfl:=Cb hx;have:=h.red i2 p hp _ t hk
    rw[if_neg D']at this;rw[if_neg D'];exact this
   ·rw[if_neg e2]at hx
    exact h.red i2 p hp q x hx
 ·rw[h.dt u D hd,hd.sw m i P.length r t h.len h.bj.lr hi hk D']
  grind
theorem GO.Bp {t:Z_} (h:GO T n w m P c d) (hk:m[P.length]? = some t) (h1:t.getD c 0=1) (hz : ∀ (q:Nat) (r:Z_),q≠P.length->m[q]? = some r->r.getD c 0=0):GO T n w m (P++[c]) (c+1) d:=by
 refine ⟨h.bj.Bp hk (by rw[h1];decide) (λ i r hi hr=>hz i r D' hr),h.len,λ i p hp q r hr => ?_,h.xe,h.dt⟩;by_cases e:i<P.length
 ·rw[Td e]at hp
  exact h.red i p hp q r hr
 ·have dw:=(zS hp).1
  rw[ze,Je]at dw;rw[te D',show i-P.length=0 by omega]at hp;obtain rfl:=Cb hp;obtain rfl:i=P.length:=D'
  by_cases e2:q=P.length
  ·subst e2
   cases hk.symm.trans hr;rw[if_pos rfl,h1]
  ·rw[if_neg e2];exact hz q r e2 hr
theorem GO.full {w':Nat} (h:GO T n w m P c d) (hc:c<=w') (ix:w'<=c\/n<=P.length):GW m w w' P:=by
 rcases ix with e|e
 ·obtain rfl:c=w':=D'
  exact h.bj
 ·have:=h.bj.pl
  have:=h.len
  exact h.bj.wide D' hc
theorem GO.piv (h:GO T n w m P c d) (hc:c<=n) (hP:P.length=n) : ∀ i,i<n->P[i]? = some i:=λ i hi=>by
 have Bi:c=n:=by have:=h.bj.le;omega
 subst Bi;obtain ⟨q,hq⟩:=X_ P i;rw[hq,h.bj.diag hP i q hq]
theorem GO.unit (h:GO T n w m P c d) (hc:c<=n) (hP:P.length=n) {i:Nat} (hi:i<n) {q:Nat} {r:Z_} (hr:m[q]? = some r):r.getD i 0=if q=i then 1 else 0 :=
 h.red i i (h.piv hc hP i hi) q r hr
end
theorem GO.ns {a b m:Y_} {n W:Nat} {P:a_} {c:Nat} {d:Rat} (h:GO (GT a b) n (n+W) m P c d) (hl:a.length=b.length) (ha : ∀ r∈a,r.length=n) (hc:c<=n) (ix:n<=c\/n<=P.length):P.length=n↔NS n a :=
 Af7 (h.full hc ix) h.xe hl ha
def N7 (m:Y_) (k:Nat):Z_:=m.map λ r=>r.getD k 0
theorem GO.sol {a b m:Y_} {n W:Nat} {P:a_} {c:Nat} {d:Rat} (h:GO (GT a b) n (n+W) m P c d) (hl:a.length=b.length) (ha : ∀ r∈a,r.length=n) (hb : ∀ r∈b,r.length=W) (hc:c<=n) (hP:P.length=n) {k:Nat} (hk:k<W) {i:Nat} {r s:Z_} (hr:a[i]? = some r) (hs:b[i]? = some s):B4 r (N7 m (n+k))=s.getD k 0:=by
 have gx:(N7 m (n+k)).length=n:=by rw[N7,De];exact h.len
 refine AcX h.xe hl ha hb hk gx h.bj.lr (λ x hx => ?_) hr hs;obtain ⟨q,hq⟩:=Fb hx;have Cs:q<n:=by have:=(zS hq).1;have:=h.len;omega
 have Km:=h.bj.lr x hx;have hu:x.take n=JR n q:=by
  refine Og λ j => ?_
  by_cases hj:j<n
  ·have h1:=h.unit hc hP hj hq
   have h2:=AsT n q j;rw[if_pos hj]at h2;rw[List.getElem?_take,if_pos hj];obtain ⟨y,hy⟩:=X_ x j;obtain ⟨z,hz⟩:=X_ (JR n q) j (by rw[Zn];exact hj);rw[ta,hy,Ti]at h1;rw[ta,hz,Ti]at h2;rw[hy,hz,h1,h2];by_cases e:q=j
   ·rw[if_pos e,if_pos e.symm]
   ·rw[if_neg e,if_neg (Ne.symm e)]
  ·rw[uc V_,uc (by rw[Zn];omega)]
 rw[hu,AmT gx Cs,N7,ta,Le,hq];rfl
end Go.j4

namespace Go.j4
def FV (D M:Nat) (x:Rat):Prop := ∃ z:Int,x*((D:Int):Rat)=(z:Rat)/\z.natAbs<=M
theorem FV.zero (D M:Nat):FV D M 0:=⟨0,by rw[Gc];rfl,p_⟩
theorem FV.le {D M N:Nat} {x:Rat} (h:FV D M x) (hn:M<=N):FV D N x:=by
 obtain ⟨z,h1,h2⟩:=h;exact ⟨z,h1,Kd h2 hn⟩
theorem FV.mul {D E M N:Nat} {x y:Rat} (hx:FV D M x) (hy:FV E N y):FV (D*E) (M*N) (x*y):=by
 obtain ⟨z,h1,h2⟩:=hx;obtain ⟨w,h3,h4⟩:=hy;refine ⟨z*w,?_,by rw[Bd];exact Wg h2 h4⟩;rw[Te,Qd,Qd,<-h1,<-h3];grind
theorem FV.add {D M N:Nat} {x y:Rat} (hx:FV D M x) (hy:FV D N y):FV D (M+N) (x+y):=by
 obtain ⟨z,h1,h2⟩:=hx;obtain ⟨w,h3,h4⟩:=hy;refine ⟨z+w,?_,Kd (Di _ _) (Nat.add_le_add h2 h4)⟩;rw[Ci,<-h1,<-h3];grind
theorem FV.up {D M:Nat} {x:Rat} (h:FV D M x) (E:Nat):FV (D*E) (M*E) x:=by
 have h1:FV E E 1:=⟨E,by rw[Eg],p_⟩;have:=h.mul h1
 rwa [Cc]at this
theorem FV.bt {D M k:Nat} {x:Rat} (h:FV D M x) (h0:D≠0) (hD:D<=2^k) (hM:M<=2^k):Bt k x:=by
 obtain ⟨z,h1,h2⟩:=h;have hd:((D:Int):Rat)≠0:=by
  intro e;have:(D:Int)=0:=by exact_mod_cast e
  omega
 have e:x=mkRat z D:=by
  rw[Rat.mkRat_eq_div,<-h1,Ab];have:=Vf _ hd
  rw[show ((D:Nat):Rat)=((D:Int):Rat) from rfl,ve,this,Cc]
 rw[e];exact Bt.mk (Kd h2 hM) hD
theorem AhG {D E M N:Nat} : ∀ (r y:Z_),(∀ x∈r,FV D M x)->(∀ x∈y,FV E N x)->FV (D*E) (r.length*(M*N)) (B4 r y)
 | [],_,_,_=>FV.zero _ _
 | _::_,[],_,_=>FV.zero _ _
 | a::r,b::y,h1,h2=>by
  rw[B4,xd,Bh,Jg];exact ((h1 a p_).mul (h2 b p_)).add (AhG r y (λ x hx=>h1 x (by simp [hx])) (λ x hx=>h2 x (by simp [hx])))
theorem As5 {S:G3} {n k D m j:Nat} (h:S.Ok n k) (ux:D<=2^m) (ha : ∀ r∈S.a,∀ x∈r,FV D (2^m) x) (hb : ∀ x∈S.b,FV D (2^m) x) {now:Z_} {x:Rat} (hx:x=0\/x=1) (hn : ∀ x∈now,FV (D^j) (2^(j*(m+n+1))) x) : ∀ y∈S.next now x,FV (D^(j+1)) (2^((j+1)*(m+n+1))) y:=by
 intro y hy;obtain ⟨i,hi⟩:=Fb hy;have dw:=(zS hi).1;rw[h.ry]at dw;obtain ⟨r,hr⟩:=X_ S.a i (by rw[h.la];exact dw);obtain ⟨b,Bg⟩:=X_ S.b i (by rw[h.lb];exact dw);have e:=Xp now x S.a S.b i r b hr Bg;rw[G3.next]at hi;rw[hi]at e;obtain rfl:=Cb e;have h1:=AhG r now (ha r (zM hr)) hn;rw[h.lr r (zM hr)]at h1;have h2:FV (D*D^j) (2^m*D^j) (b*x):=by
  rcases hx with rfl|rfl
  ·rw[yf];exact FV.zero _ _
  ·rw[Cc];exact (hb b (zM Bg)).up _
 have h3:=h1.add h2;rw[show D*D^j=D^(j+1) by rw[Hb,oc]]at h3;refine h3.le ?_;have g1:D^j<=2^(j*(m+n+1)):=by
  refine Kd (Si ux j) ?_;rw[<-Ee];refine Uc D' ?_;rw[oc];exact zc j D'
 have g2:n+1<=2^n:=Nat.lt_two_pow_self;have g3:2^((j+1)*(m+n+1))=2*(2^n*(2^m*2^(j*(m+n+1)))):=by
  rw[Bh,yd,yd,yd];generalize 2^(j*(m+n+1))=P;generalize 2^m=A;generalize 2^n=B;grind
 rw[g3];generalize 2^(j*(m+n+1))=P at *;have g4:2^m*D^j<=2^m*P:=zc _ g1;generalize 2^m*P=T at *;have g5:(n+1)*T<=2^n*T:=zR T g2;rw[Bh]at g5;omega
theorem AhL {S:G3} {n k D m:Nat} (h:S.Ok n k) (ux:D<=2^m) (ha : ∀ r∈S.a,∀ x∈r,FV D (2^m) x) (hb : ∀ x∈S.b,FV D (2^m) x) : ∀ (xs now:Z_) (j:Nat),(∀ x∈xs,x=0\/x=1)->(∀ x∈now,FV (D^j) (2^(j*(m+n+1))) x) -> ∀ x∈S.state now xs,FV (D^(j+xs.length)) (2^((j+xs.length)*(m+n+1))) x
 | [],_,_,_,hn=>hn
 | x::xs,now,j,hx,hn=>by
  have:=AhL h ux ha hb xs _ (j+1) (λ z hz=>hx z (by simp [hz])) (As5 h ux ha hb (hx x p_) hn)
  rw[show j+1+xs.length=j+(x::xs).length by rw[xd];omega]at this;exact this
def IJ:Z_->Nat
 | []=>1
 | x::l=>x.den*IJ l
theorem mG : ∀ l:Z_,1<=IJ l
 | []=>na _
 | x::l=>ij x.den_pos (mG l)
theorem Ac5 : ∀ {l:Z_} {x:Rat},x∈l -> ∃ e,IJ l=x.den*e
 | y::l,x,h=>by
  rcases Nf.1 h with rfl|h
  ·exact ⟨_,rfl⟩
  ·obtain ⟨e,he⟩:=Ac5 h
   exact ⟨y.den*e,by rw[IJ,he,<-Hd,<-Hd,oc y.den]⟩
theorem AqR (y:Rat):y*(y.den:Rat)=(y.num:Rat):=by
 have h:=Ri y;rw[Mi]at h;have h0:((y.den:Int):Rat)≠0:=λ e=>by
  have:((y.den:Int):Rat)=((0:Int):Rat):=e
  have:=dh.1 this
  have:=y.den_pos
  omega
 have h2:=od h0 (a:=(y.num:Rat));rw[h,ie]at h2;exact h2
theorem vE {l:Z_} {x:Rat} {k m:Nat} (hx:x∈l) (hb:Bt k x) (hD:IJ l<=2^m):FV (IJ l) (2^(k+m)) x:=by
 obtain ⟨e,he⟩:=Ac5 hx;refine ⟨x.num*e,?_,?_⟩
 ·rw[he,Te,Qd,Qd,<-ve]
  congr 1;exact AqR x
 ·have h1:e<=IJ l:=by rw[he];exact Nat.le_mul_of_pos_left e x.den_pos
  rw[Bd,Pg,yd];exact Wg hb.1 (Kd h1 hD)
end Go.j4

namespace Go.j4
theorem Asu {S:G3} {n k:Nat} (h:S.Ok n k) (hD:IJ (S.a.flatten++S.b)<=2^k) {xs:Z_} (hx : ∀ x∈xs,x=0\/x=1):Bs (xs.length*(2*k+n+1)) (S.state (Wa n 0) xs):=by
 obtain ⟨m,hm⟩ : ∃ m,m=2*k:=⟨_,rfl⟩;rw[<-hm];have jk:Bs k (S.a.flatten++S.b):=λ x hx=>by
  rcases fe.1 hx with h1|h1
  ·obtain ⟨r,hr,hxr⟩:=Ki.1 h1
   exact h.ba r hr x hxr
  ·exact h.bb x h1
 have ux:IJ (S.a.flatten++S.b)<=2^m:=Kd hD (Uc D' D');have hw : ∀ x∈S.a.flatten++S.b,FV (IJ (S.a.flatten++S.b)) (2^m) x:=λ x hx=>(vE hx (jk x hx) hD).le (Uc D' D')
 have h1:=AhL h ux (λ r hr x hx=>hw x (fe.2 (Or.inl (Ki.2 ⟨r,hr,hx⟩)))) (λ x hx=>hw x (fe.2 (Or.inr hx))) xs (Wa n 0) 0 hx (λ x hx=>by rw[List.eq_of_mem_replicate hx];exact FV.zero _ _);rw[oe]at h1;intro x hx;have h2:=h1 x hx;refine h2.bt (Nat.pos_iff_ne_zero.1 (Vi (mG _))) (Kd (Si ux _) ?_) (na _);rw[<-Ee];refine Uc D' ?_;rw[oc];exact zc _ D'
section
variable {a:Y_} {n D m:Nat}
end
end Go.j4

namespace Go.j4
open F
attribute [local irreducible] AJ A5 BZ A0 FH B2 C6 C9 EO EC E0 HH D6 CT EJ E3 AM CZ BH pw EF DP FF FR F5 F7 E6 DQ GN
variable {L:Lib}
def GE (a b:Int):Int:=if a<b then -1 else if b<a then 1 else 0
theorem OM {a b:Int} (h:a<b) : -1=GE a b:=by unfold GE;rw[if_pos h]
theorem WY {a b:Int} (h:b<a):1=GE a b:=by unfold GE;rw[if_neg D',if_pos h]
theorem eL {a b:Int} (h:a=b):0=GE a b:=by unfold GE;rw[if_neg D',if_neg D']
theorem AnP (N:c9 L) (a:Int):Ev L 58 [.int .i64 a] (.bool false):=by
 refine Ev.x N.aF rfl rfl ?_;repeat' (first|(apply A7<;>intro hc<;>try omega)|apply AQ)<;>conv=>whnf
 exact HK rfl
theorem AnQ (N:c9 L) (a:Int):Ev L 59 [.int .u32 a] (.bool false):=by
 refine Ev.x N.aG rfl rfl ?_;repeat' (first|(apply A7<;>intro hc<;>try omega)|apply AQ)<;>conv=>whnf
 exact HK rfl
theorem Anj (N:c9 L) (a b:Int):Ev L 60 [.int .i64 a,.int .i64 b] (.int .i64 (GE a b)):=by
 refine Ev.x N.aD rfl rfl ?_;repeat' (first|(apply A7<;>intro hc<;>try omega)|apply AQ|refine AU (AnP N _) ?_)<;>conv=>whnf
 ·exact F2 (OM D')
 ·exact F2 (WY D')
 ·exact F2 (eL D')
theorem Anl (N:c9 L) (a b:Int):Ev L 61 [.int .u32 a,.int .u32 b] (.int .i64 (GE a b)):=by
 refine Ev.x N.aE rfl rfl ?_;repeat' (first|(apply A7<;>intro hc<;>try omega)|apply AQ|refine AU (AnQ N _) ?_)<;>conv=>whnf
 ·exact F2 (OM D')
 ·exact F2 (WY D')
 ·exact F2 (eL D')
theorem AdH (N:c9 L) (l:a_) (q:Bool) (hl:l.length<=1099511627776):Ev L 62 [.sl q (l.map BK)] (.sl false (l.map BK)):=by
 cases l with
 | nil =>
  refine J8.nil N.Q5 (J8.x N.Q5 rfl rfl ?_) (J8.x N.Q5 rfl rfl ?_)
  ·(repeat' (apply AQ<;>conv=>whnf))
   exact B1 rfl (by simp [CI,J6])
  ·(repeat' (apply AQ<;>conv=>whnf))
   refine pO (enc:=BK) (l:=[]) (l':=[]) rfl (λ_=>rfl) p_ p_ ?_;conv=>whnf
   (repeat' ((refine G9 (λ_=>rfl) rfl ?_ ?_;(first|rfl|simp))<;>conv=>whnf))
   exact B1 rfl (by simp [CI,J6])
 | cons d l =>
  refine J8.cons (J8.x N.Q5 rfl rfl ?_);(repeat' (apply AQ<;>conv=>whnf))
  refine CB p_ ?_;conv=>whnf
  skip
  refine pO (enc:=BK) (l:=[]) (l':=d::l) rfl (λ_=>rfl) (by simp at hl ⊢;omega) (by simp at hl ⊢;omega) ?_;conv=>whnf
  (repeat' ((refine G9 (λ_=>rfl) rfl ?_ ?_;(first|rfl|simp))<;>conv=>whnf))
  exact B1 rfl (by simp only[CI,true_and];exact EW (d::l))
theorem VK (N:c9 L) (l:a_) (q:Bool) (hD:CM l) (hl:l.length<=1099511627776):lN L 65 [.sl q (l.map BK)] (.sl q ((dg (val l)).map BK)):=by
 refine AjQ N.KS rfl rfl rfl rfl rfl ?_;repeat' (first|apply BW|apply AQ)<;>conv=>whnf
 refine FP (λ n=>n) (λ(n:Nat)=>n<=l.length /\ ∀ i,n<=i->i<l.length->l[i]? = some 0) (λ n=>[(3,.int .i64 n)]) (λ_=>[]) l.length ⟨na _,λ i h1 h2=>D'⟩ ?_;intro n ⟨p1,p2⟩ ih;rcases n with _|n
 ·repeat' (first|(apply A7<;>intro hc<;>try omega)|apply AQ)<;>conv=>whnf
  refine eB (k:=0) (λ_=>rfl) D' ?_;conv=>whnf
  refine ⟨_,rfl,?_⟩;rw[LD hD p1 p2 (Or.inl rfl)];rfl
 ·have e1:((n+1:Nat):Int)-1=n:=D'
  repeat' (first|(apply A7<;>intro hc<;>try omega)|(apply EP;omega)|(refine Z9 G' ?_ (λ e he hb => ?_);omega)|apply AQ)<;>conv=>whnf
  ·rw[e1]
   exact DB [] (ih n D' ⟨D',λ i h1 h2=>by
    by_cases h:i=n
    ·subst h
     rw[e1,Gb]at he;rw[he];congr 1;omega
    ·exact p2 i D' h2⟩)
  ·refine eB (k:=n+1) (λ_=>rfl) D' ?_
   (conv=>whnf)
   refine ⟨_,rfl,?_⟩;rw[e1,Gb]at he;rw[LD hD p1 p2 (Or.inr ⟨e,he,D'⟩)];rfl
theorem mK (N:c9 L) (l:a_) (q:Bool) (hD:CM l) (hl:l.length<=1099511627776):Ev L 66 [.sl q (l.map BK)] (.sl false ((dg (val l)).map BK)):=by
 have hc:=IQ hD;refine Ev.x N.bL rfl rfl ?_;repeat' (first|apply AQ|refine RW (VK N l _ hD hl) ?_|refine AU (AdH N (dg (val l)) _ D') ?_)<;>conv=>whnf
 exact B1 rfl (by simp only[CI,true_and];exact EW _)
theorem Alb {a b:Nat} (h:((dg a).length:Int)≠(dg b).length):GE (dg a).length (dg b).length=GE a b:=by
 rcases Sf (dg a).length (dg b).length with h1|h1|h1
 ·have:=lE h1
  rw[<-OM D',<-OM D']
 ·omega
 ·have:=lE h1
  rw[<-WY D',<-WY D']
theorem Y8 (N:c9 L) (a b:a_) (q1 q2:Bool) (hA:CM a) (hB:CM b) (la:a.length<=1099511627776) (lb:b.length<=1099511627776):Ev L 67 [.sl q1 (a.map BK),.sl q2 (b.map BK)] (.int .i64 (GE (val a) (val b))):=by
 have l1:=IQ hA;have l2:=IQ hB;have d1:=HM (val a);have d2:=HM (val b);refine Ev.x N.XC rfl rfl ?_;repeat' (first|(apply A7<;>intro hc<;>try omega)|(apply EP;omega)|apply BW|apply AQ|refine RW (VK N a _ hA la) ?_|refine RW (VK N b _ hB lb) ?_|refine AU (Anj N _ _) ?_)<;>conv=>whnf
 ·exact F2 (Alb D')
 have hlen:(dg (val a)).length=(dg (val b)).length:=D'
 have v1:=EH (val a);have v2:=EH (val b);generalize dg (val a)=X at *;generalize dg (val b)=Y at *;refine FP (λ n=>n) (λ(n:Nat)=>n<=X.length/\X.drop n=Y.drop n) (λ n=>[(7,.int .i64 ((n:Int)-1))]) (λ_=>[]) X.length ⟨na _,by rw[Sb (na _),Sb D']⟩ ?_;intro n ⟨p1,p2⟩ ih;rcases n with _|n
 ·repeat' (first|(apply A7<;>intro hc<;>try omega)|apply AQ)<;>conv=>whnf
  rw[Wb,Wb]at p2;exact F2 (eL (by rw[<-v1,<-v2,p2]))
 ·have e1:((n+1:Nat):Int)-1=n:=D'
  rw[e1];repeat' (first|(apply A7<;>intro hc<;>try omega)|(apply EP;omega)|(refine CU G' ?_ rfl ?_;omega)|(refine qG G' ?_ (λ e he hb => ?_);omega)|apply AQ|refine AU (Anl N _ _) ?_)<;>conv=>whnf
  ·rename_i x hx _
   rcases Sf x e with h|h|h
   ·have:=uX d1 d2 hlen hx he p2 h
    refine F2 ?_;rw[<-OM D',<-OM D']
   ·omega
   ·have:=uX d2 d1 hlen.symm he hx p2.symm h
    refine F2 ?_;rw[<-WY D',<-WY D']
  ·rename_i x hx _
   refine EA [] w_ (ih n D' ⟨D',?_⟩);obtain ⟨i1,e1⟩:=zS hx;obtain ⟨i2,e2⟩:=zS he;rw[Ic i1,Ic i2,p2,e1,e2];congr 1;omega
theorem uZ {y:a_} {i:Nat} (h:y.length<=i):val (y.take (i+1))=val (y.take i):=by
 rw[GH h,GH D']
theorem An1 (N:c9 L) (a b:a_) (q1 q2:Bool) (hA:CM a) (hB:CM b) (la:a.length<=1099511627775) (lb:b.length<=1099511627775):Ev L 68 [.sl q1 (a.map BK),.sl q2 (b.map BK)] (.sl false ((dg (val a+val b)).map BK)):=by
 have l1:=IQ hA;have l2:=IQ hB;have d1:=HM (val a);have d2:=HM (val b);have v1:=EH (val a);have v2:=EH (val b);refine Ev.x N.XB rfl rfl ?_;repeat' (first|(apply A7<;>intro hc<;>try omega)|(apply B5;omega)|apply BW|apply AQ|refine RW (VK N a _ hA D') ?_|refine RW (VK N b _ hB D') ?_)<;>conv=>whnf
 ·generalize dg (val a)=y at *
  generalize dg (val b)=x at *;rw[<-v1,<-v2,Jg (val y)];have hlen:y.length<=x.length:=D'
  have Km:x.length<=1099511627775:=D'
  clear v1 v2 hA hB la lb;refine I2 (enc:=BK) 0 (x.length+1) rfl D' D' ?_;conv=>whnf
  (repeat' (apply BW<;>conv=>whnf))
  refine LK (λ i _ _=>x.length-i) (λ(i:Nat) (o:a_) (c:Nat)=>i<=x.length/\o.length=x.length+1/\CM o/\c<=1/\val (o.take i)+4294967296^i*c=val (x.take i)+val (y.take i)) (λ i o c=>[(8,.int .u64 (c:Int)),(29,.int .i64 i)]) (λ i o c=>[(26,26,.rw 1 (o.map BK))]) 0 (Wa (x.length+1) 0) 0 ⟨D',p_,QK _,D',by simp [val]⟩ ?_;intro i o c ⟨p1,p2,p3,p4,p5⟩ ih;by_cases hi:i<x.length
  ·repeat' (first|(apply A7<;>intro hc<;>try omega)|(apply CB;omega)|(apply KY;omega)|(apply E2;omega)|apply J7|apply BW|(refine qG G' ?_ (λ e he hb => ?_);omega)|apply AQ)<;>conv=>whnf
   ·rename_i d hd _
    refine JM D' ?_;conv=>whnf
    repeat' (first|(apply B5;omega)|apply JU)<;>conv=>whnf
    refine EA [] w_ (ih (i+1) _ _ D' ⟨D',by simpa using p2,p3.set _ D',D',?_⟩);have h1:=HS hd;have h2:=HS he;have h3:=YZ (val (o.take i)) (4294967296^i) (d+c+e);have h4:=KW (v:=(d+c+e)%4294967296) (show i<o.length by omega);rw[h4,h1,h2,Hb];generalize 4294967296^i=p at *;rw[h3,fc,fc];omega
   ·refine JM D' ?_
    (conv=>whnf)
    repeat' (first|(apply B5;omega)|apply JU)<;>conv=>whnf
    refine EA [] w_ (ih (i+1) _ _ D' ⟨D',by simpa using p2,p3.set _ D',D',?_⟩);have h1:=HS he;have h2:=uZ (y:=y) (i:=i) D';have h3:=YZ (val (o.take i)) (4294967296^i) (e+c);have h4:=KW (v:=(e+c)%4294967296) (show i<o.length by omega);rw[h4,h1,h2,Hb];generalize 4294967296^i=p at *;rw[h3,fc];omega
  ·obtain rfl:i=x.length:=D'
   clear ih;repeat' (first|(apply A7<;>intro hc<;>try omega)|(apply CB;omega)|(apply IA;omega)|apply BW|apply AQ)<;>conv=>whnf
   refine JM D' ?_;conv=>whnf
   skip
   have hV:val (o.set x.length c)=val x+val y:=by
    have h4:=KW (v:=c) (show x.length<o.length by omega);rw[zT W_]at h4;rw[h4,p5,GH (na _),GH hlen]
   have hD:CM (o.set x.length c):=p3.set _ D';have hL:(o.set x.length c).length=x.length+1:=by simpa using p2
   clear p3 p4 p5 p2;generalize o.set x.length c=O at *;rw[<-hL];refine K5 1000 N.KS rfl rfl ?_;(repeat' (apply AQ<;>conv=>whnf))
   refine GV (λ n=>n) (λ(n:Nat)=>n<=(O).length /\ ∀ i,n<=i->i<(O).length->(O)[i]? = some 0) (λ n=>[(3,.int .i64 n)]) (λ_=>[]) [] [] (O).length (by first|exact w_|(simp only[ec,He];exact w_)) ⟨na _,λ i h1 h2=>D'⟩ ?_;intro n ⟨p1,p2⟩ ih;rcases n with _|n
   ·repeat' (first|(apply A7<;>intro hc<;>try omega)|apply AQ)<;>conv=>whnf
    refine M7 0 D' D' ?_;conv=>whnf
    refine ⟨rfl,_,rfl,?_⟩;conv=>whnf
    have hm:=p1;have iw:=LD (l:=O) G' p1 p2 (Or.inl rfl);clear ih p1 p2;(refine NK (enc:=BK) (λ_=>rfl) D' ?_;(conv=>whnf);exact B1 (by rw[<-hV,<-iw];rfl) (by simp only[CI,true_and];exact EW _))
   ·have e1:((n+1:Nat):Int)-1=n:=D'
    repeat' (first|(apply A7<;>intro hc<;>try omega)|(apply CB;omega)|(apply EP;omega)|(refine dZ G' ?_ (λ v hv hb => ?_);omega)|apply AQ)<;>conv=>whnf
    ·rw[e1]
     exact DB [] (ih n D' ⟨D',λ i h1 h2=>by
      by_cases h:i=n
      ·subst h
       rw[e1,Gb]at hv;rw[hv];congr 1;omega
      ·exact p2 i D' h2⟩)
    ·refine M7 (n+1) D' D' ?_
     (conv=>whnf)
     refine ⟨rfl,_,rfl,?_⟩;conv=>whnf
     rw[e1,Gb]at hv;have hm:=p1;have iw:=LD (l:=O) G' p1 p2 (Or.inr ⟨_,hv,D'⟩);clear ih p1 p2 hv;(refine NK (enc:=BK) (λ_=>rfl) D' ?_;(conv=>whnf);exact B1 (by rw[<-hV,<-iw];rfl) (by simp only[CI,true_and];exact EW _))
 ·generalize dg (val a)=x at *
  generalize dg (val b)=y at *;rw[<-v1,<-v2];have hlen:y.length<=x.length:=D'
  have Km:x.length<=1099511627775:=D'
  clear v1 v2 hA hB la lb;refine I2 (enc:=BK) 0 (x.length+1) rfl D' D' ?_;conv=>whnf
  (repeat' (apply BW<;>conv=>whnf))
  refine LK (λ i _ _=>x.length-i) (λ(i:Nat) (o:a_) (c:Nat)=>i<=x.length/\o.length=x.length+1/\CM o/\c<=1/\val (o.take i)+4294967296^i*c=val (x.take i)+val (y.take i)) (λ i o c=>[(8,.int .u64 (c:Int)),(29,.int .i64 i)]) (λ i o c=>[(26,26,.rw 1 (o.map BK))]) 0 (Wa (x.length+1) 0) 0 ⟨D',p_,QK _,D',by simp [val]⟩ ?_;intro i o c ⟨p1,p2,p3,p4,p5⟩ ih;by_cases hi:i<x.length
  ·repeat' (first|(apply A7<;>intro hc<;>try omega)|(apply CB;omega)|(apply KY;omega)|(apply E2;omega)|apply J7|apply BW|(refine qG G' ?_ (λ e he hb => ?_);omega)|apply AQ)<;>conv=>whnf
   ·rename_i d hd _
    refine JM D' ?_;conv=>whnf
    repeat' (first|(apply B5;omega)|apply JU)<;>conv=>whnf
    refine EA [] w_ (ih (i+1) _ _ D' ⟨D',by simpa using p2,p3.set _ D',D',?_⟩);have h1:=HS hd;have h2:=HS he;have h3:=YZ (val (o.take i)) (4294967296^i) (d+c+e);have h4:=KW (v:=(d+c+e)%4294967296) (show i<o.length by omega);rw[h4,h1,h2,Hb];generalize 4294967296^i=p at *;rw[h3,fc,fc];omega
   ·refine JM D' ?_
    (conv=>whnf)
    repeat' (first|(apply B5;omega)|apply JU)<;>conv=>whnf
    refine EA [] w_ (ih (i+1) _ _ D' ⟨D',by simpa using p2,p3.set _ D',D',?_⟩);have h1:=HS he;have h2:=uZ (y:=y) (i:=i) D';have h3:=YZ (val (o.take i)) (4294967296^i) (e+c);have h4:=KW (v:=(e+c)%4294967296) (show i<o.length by omega);rw[h4,h1,h2,Hb];generalize 4294967296^i=p at *;rw[h3,fc];omega
  ·obtain rfl:i=x.length:=D'
   clear ih;repeat' (first|(apply A7<;>intro hc<;>try omega)|(apply CB;omega)|(apply IA;omega)|apply BW|apply AQ)<;>conv=>whnf
   refine JM D' ?_;conv=>whnf
   skip
   have hV:val (o.set x.length c)=val x+val y:=by
    have h4:=KW (v:=c) (show x.length<o.length by omega);rw[zT W_]at h4;rw[h4,p5,GH (na _),GH hlen]
   have hD:CM (o.set x.length c):=p3.set _ D';have hL:(o.set x.length c).length=x.length+1:=by simpa using p2
   clear p3 p4 p5 p2;generalize o.set x.length c=O at *;rw[<-hL];refine K5 1000 N.KS rfl rfl ?_;(repeat' (apply AQ<;>conv=>whnf))
   refine GV (λ n=>n) (λ(n:Nat)=>n<=(O).length /\ ∀ i,n<=i->i<(O).length->(O)[i]? = some 0) (λ n=>[(3,.int .i64 n)]) (λ_=>[]) [] [] (O).length (by first|exact w_|(simp only[ec,He];exact w_)) ⟨na _,λ i h1 h2=>D'⟩ ?_;intro n ⟨p1,p2⟩ ih;rcases n with _|n
   ·repeat' (first|(apply A7<;>intro hc<;>try omega)|apply AQ)<;>conv=>whnf
    refine M7 0 D' D' ?_;conv=>whnf
    refine ⟨rfl,_,rfl,?_⟩;conv=>whnf
    have hm:=p1;have iw:=LD (l:=O) G' p1 p2 (Or.inl rfl);clear ih p1 p2;(refine NK (enc:=BK) (λ_=>rfl) D' ?_;(conv=>whnf);exact B1 (by rw[<-hV,<-iw];rfl) (by simp only[CI,true_and];exact EW _))
   ·have e1:((n+1:Nat):Int)-1=n:=D'
    repeat' (first|(apply A7<;>intro hc<;>try omega)|(apply CB;omega)|(apply EP;omega)|(refine dZ G' ?_ (λ v hv hb => ?_);omega)|apply AQ)<;>conv=>whnf
    ·rw[e1]
     exact DB [] (ih n D' ⟨D',λ i h1 h2=>by
      by_cases h:i=n
      ·subst h
       rw[e1,Gb]at hv;rw[hv];congr 1;omega
      ·exact p2 i D' h2⟩)
    ·refine M7 (n+1) D' D' ?_
     (conv=>whnf)
     refine ⟨rfl,_,rfl,?_⟩;conv=>whnf
     rw[e1,Gb]at hv;have hm:=p1;have iw:=LD (l:=O) G' p1 p2 (Or.inr ⟨_,hv,D'⟩);clear ih p1 p2 hv;(refine NK (enc:=BK) (λ_=>rfl) D' ?_;(conv=>whnf);exact B1 (by rw[<-hV,<-iw];rfl) (by simp only[CI,true_and];exact EW _))
theorem Ak8 {a b:Int} (h:GE a b<=0):a<=b:=by
 unfold GE at h;split at h
 ·omega
 ·split at h<;>omega
theorem Ak9 {a b:Int} (h:0<GE a b):b<a:=by
 unfold GE at h;split at h
 ·omega
 ·split at h<;>omega
theorem AdW (N:c9 L) (a b:a_) (q1 q2:Bool) (hA:CM a) (hB:CM b) (la:a.length<=1099511627776) (lb:b.length<=1099511627776):Ev L 69 [.sl q1 (a.map BK),.sl q2 (b.map BK)] (.sl false ((dg (val a-val b)).map BK)):=by
 have l1:=IQ hA;have l2:=IQ hB;have d1:=HM (val a);have d2:=HM (val b);have v1:=EH (val a);have v2:=EH (val b);refine Ev.x N.XD rfl rfl ?_;repeat' (first|(apply A7<;>intro hc<;>try omega)|apply BW|apply AQ|refine AU (Y8 N a b _ _ hA hB la lb) ?_|refine RW (VK N a _ hA la) ?_|refine RW (VK N b _ hB lb) ?_)<;>conv=>whnf
 ·have:=Ak8 hc
  refine B1 ?_ (by simp only[CI,true_and];exact EW _);rw[show val a-val b=0 by omega,I6];rfl
 ·have n7:=Ak9 hc
  have Dv:(dg (val b)).length<=(dg (val a)).length:=by
   rcases Ah (dg (val a)).length (dg (val b)).length with h|h
   ·have:=lE h;omega
   ·exact h
  have Dw:val b<val a:=D'
  clear n7 hc;generalize dg (val a)=x at *;generalize dg (val b)=y at *;rw[<-v1,<-v2]at Dw ⊢;clear v1 v2 hA hB lb;refine I2 (enc:=BK) 0 x.length rfl rfl D' ?_;conv=>whnf
  (repeat' (apply BW<;>conv=>whnf))
  refine LK (λ i _ _=>x.length-i) (λ(i:Nat) (o:a_) (c:Nat)=>i<=x.length/\o.length=x.length/\CM o/\c<=1/\val (o.take i)+val (y.take i)=val (x.take i)+4294967296^i*c) (λ i o c=>[(8,.int .u64 (c:Int)),(25,.int .i64 i)]) (λ i o c=>[(22,22,.rw 1 (o.map BK))]) 0 (Wa x.length 0) 0 ⟨D',p_,QK _,D',by simp [val]⟩ ?_;intro i o c ⟨p1,p2,p3,p4,p5⟩ ih;by_cases hi:i<x.length
  ·repeat' (first|(apply A7<;>intro hc<;>try omega)|(apply CB;omega)|(apply qD;omega)|(apply E2;omega)|apply J7|apply BW|(refine qG G' ?_ (λ e he hb => ?_);omega)|apply AQ)<;>conv=>whnf
   ·rename_i d hd ik
    obtain ⟨s1,s2⟩:=AsD ik hb p4;refine JM D' ?_;conv=>whnf
    repeat' (first|(apply B5;omega)|apply qC)<;>conv=>whnf
    generalize IH (IH d c) e=t at *;refine EA [] w_ (ih (i+1) _ _ D' ⟨D',by simpa using p2,p3.set _ D',s2,?_⟩);rw[KW D',HS hd,HS he,Hb];exact Ag4 p5 s1
   ·obtain ⟨s1,s2⟩:=AsC hb p4
    refine JM D' ?_;conv=>whnf
    repeat' (first|(apply B5;omega)|apply qC)<;>conv=>whnf
    generalize IH e c=t at *;refine EA [] w_ (ih (i+1) _ _ D' ⟨D',by simpa using p2,p3.set _ D',s2,?_⟩);rw[KW D',HS he,uZ D',Hb];rw[<-xc (t%4294967296)]at s1;have:=Ag4 (e:=0) p5 s1
    rw[Oc,xc]at this;exact this
  ·obtain rfl:i=x.length:=D'
   clear ih;have qf:c=0:=by
    rw[GH D',GH Dv,GH (na _)]at p5;have:=JD p3
    rw[p2]at this;rcases Vd c with h|h
    ·exact h
    ·have:c=1:=D'
     subst this;omega
   subst qf;have hV:val o=val x-val y:=by
    rw[GH D',GH Dv,GH (na _)]at p5;omega
   clear p5 p4;rw[<-p2];repeat' (first|(apply A7<;>intro hc<;>try omega)|apply AQ)<;>conv=>whnf
   refine K5 1000 N.KS rfl rfl ?_;(repeat' (apply AQ<;>conv=>whnf))
   refine GV (λ n=>n) (λ(n:Nat)=>n<=(o).length /\ ∀ i,n<=i->i<(o).length->(o)[i]? = some 0) (λ n=>[(3,.int .i64 n)]) (λ_=>[]) [] [] (o).length (by first|exact w_|(simp only[ec,He];exact w_)) ⟨na _,λ i h1 h2=>D'⟩ ?_;intro n ⟨p1,p2⟩ ih;rcases n with _|n
   ·repeat' (first|(apply A7<;>intro hc<;>try omega)|apply AQ)<;>conv=>whnf
    refine M7 0 D' D' ?_;conv=>whnf
    refine ⟨rfl,_,rfl,?_⟩;conv=>whnf
    have hm:=p1;have iw:=LD (l:=o) G' p1 p2 (Or.inl rfl);clear ih p1 p2;(refine NK (enc:=BK) (λ_=>rfl) D' ?_;(conv=>whnf);exact B1 (by rw[<-hV,<-iw];rfl) (by simp only[CI,true_and];exact EW _))
   ·have e1:((n+1:Nat):Int)-1=n:=D'
    repeat' (first|(apply A7<;>intro hc<;>try omega)|(apply CB;omega)|(apply EP;omega)|(refine dZ G' ?_ (λ v hv hb => ?_);omega)|apply AQ)<;>conv=>whnf
    ·rw[e1]
     exact DB [] (ih n D' ⟨D',λ i h1 h2=>by
      by_cases h:i=n
      ·subst h
       rw[e1,Gb]at hv;rw[hv];congr 1;omega
      ·exact p2 i D' h2⟩)
    ·refine M7 (n+1) D' D' ?_
     (conv=>whnf)
     refine ⟨rfl,_,rfl,?_⟩;conv=>whnf
     rw[e1,Gb]at hv;have hm:=p1;have iw:=LD (l:=o) G' p1 p2 (Or.inr ⟨_,hv,D'⟩);clear ih p1 p2 hv;(refine NK (enc:=BK) (λ_=>rfl) D' ?_;(conv=>whnf);exact B1 (by rw[<-hV,<-iw];rfl) (by simp only[CI,true_and];exact EW _))
theorem yO (N:c9 L) (a b:a_) (q1 q2:Bool) (hA:CM a) (hB:CM b) (lab:a.length+b.length<=1099511627776):Ev L 70 [.sl q1 (a.map BK),.sl q2 (b.map BK)] (.sl false ((dg (val a*val b)).map BK)):=by
 have l1:=IQ hA;have l2:=IQ hB;have d1:=HM (val a);have d2:=HM (val b);have v1:=EH (val a);have v2:=EH (val b);refine Ev.x N.SK rfl rfl ?_;have hz : ∀ p:Prop,((dg (val a)).length:Int)=0\/((dg (val b)).length:Int)=0->BH (.sl false []) (.sl false ((dg (val a*val b)).map BK)):=λ_ h=>by
  have:val a*val b=0:=by
   rcases h with h|h
   ·have:dg (val a)=[]:=Hg D'
    rw[xI.1 this,Cf]
   ·have:dg (val b)=[]:=Hg D'
    rw[xI.1 this,Oc]
  exact B1 (by rw[this,I6];rfl) (by simp only[CI,true_and];exact EW _)
 repeat' (first|(apply A7<;>intro hc<;>try omega)|(apply B5;omega)|apply BW|apply AQ|refine RW (VK N a _ hA D') ?_|refine RW (VK N b _ hB D') ?_)<;>conv=>whnf
 ·exact hz True (Or.inl hc)
 ·exact hz True (Or.inr hc)
 ·clear hz
  generalize dg (val a)=x at *;generalize dg (val b)=y at *;rw[<-v1,<-v2];have yi:x.length+y.length<=1099511627776:=D'
  clear v1 v2 hA hB lab l1 l2;refine I2 (enc:=BK) 0 (x.length+y.length) rfl D' D' ?_;conv=>whnf
  (repeat' (apply BW<;>conv=>whnf))
  refine LJ (λ i _=>x.length-i) (λ(i:Nat) (o:a_)=>i<=x.length/\o.length=x.length+y.length/\CM o/\val o=val (x.take i)*val y /\ ∀ k,i+y.length<=k->k<o.length->o[k]? = some 0) (λ i o=>[(34,.int .i64 i)]) (λ i o=>[(31,31,.rw 1 (o.map BK))]) 0 (Wa (x.length+y.length) 0) ⟨D',p_,QK _,by simp [val,vB],λ k h1 h2=>by simp at h2;simp [h2]⟩ ?_;intro i O ⟨p1,p2,p3,p4,p5⟩ ih;by_cases hi:i<x.length
  ·obtain ⟨d,hd⟩:=X_ x i hi
   have ik:=d1.at hd;repeat' (first|(apply A7<;>intro hc<;>try omega)|(apply B5;omega)|apply BW|(refine CU G' ?_ rfl ?_;omega)|apply AQ)<;>conv=>whnf
   ·refine EA [] w_ (ih (i+1) O D' ⟨D',p2,p3,?_,λ k h1 h2=>p5 k D' h2⟩)
    rw[HS hd,p4,show d=0 by omega,Oc,xc]
   ·refine LK (λ j _ _=>y.length-j) (λ(j:Nat) (o:a_) (c:Nat)=>j<=y.length/\o.length=x.length+y.length/\CM o/\c<4294967296/\val o+4294967296^(i+j)*c=val O+4294967296^i*(d*val (y.take j)) /\ ∀ k,i+j<=k->o[k]? = O[k]?) (λ j o c=>[(10,.int .u64 (c:Int)),(43,.int .i64 j)]) (λ j o c=>[(31,31,.rw 1 (o.map BK))]) 0 O 0 ⟨D',p2,p3,D',by simp [val],λ_ _=>rfl⟩ ?_
    intro j o c ⟨r1,r2,r3,r4,r5,r6⟩ jh;have e1:((i:Int)+j).toNat=i+j:=D'
    by_cases hj:j<y.length
    ·obtain ⟨w,hw⟩:=X_ y j hj
     have Ep:=d2.at hw;have hm:=kE ik Ep;repeat' (first|(apply A7<;>intro hc<;>try omega)|(apply CB;omega)|(apply B5;omega)|(apply KY;omega)|(apply YT;omega)|(apply E2;omega)|apply J7|(refine CU G' ?_ rfl ?_;omega)|(refine AbY G' ?_ (λ v hv hb => ?_);omega)|apply AQ)<;>conv=>whnf
     refine qJ (i+j) D' D' ?_;conv=>whnf
     repeat' (first|(apply B5;omega)|apply JU)<;>conv=>whnf
     refine EA [] w_ (jh (j+1) _ _ D' ⟨D',by simpa using r2,r3.set _ D',D',?_,?_⟩)
     ·have h1:=uY (v:=(d*w+v+c)%4294967296) hv
      have h2:=YZ 0 (4294967296^(i+j)) (d*w+v+c);rw[HS hw,show i+(j+1)=i+j+1 by omega,Hb (4294967296) (i+j)];have h3:4294967296^i*(d*(val (y.take j)+4294967296^j*w))=4294967296^i*(d*val (y.take j))+4294967296^(i+j)*(d*w):=by rw[yd];grind
      rw[h3];generalize 4294967296^(i+j)=P at *;rw[fc P,fc P]at h2;omega
     ·intro k hk
      rw[Ge D'];exact r6 k D'
    ·obtain rfl:j=y.length:=D'
     clear jh;repeat' (first|(apply A7<;>intro hc<;>try omega)|(apply CB;omega)|(apply B5;omega)|(apply IA;omega)|apply BW|apply AQ)<;>conv=>whnf
     have hz:=r6 (i+y.length) D';rw[p5 (i+y.length) D' D']at hz;refine qJ (i+y.length) D' D' ?_;conv=>whnf
     repeat' (first|(apply B5;omega)|fail)<;>conv=>whnf
     refine EA [] w_ (ih (i+1) _ D' ⟨D',by simpa using r2,r3.set _ D',?_,?_⟩)
     ·have h1:=uY (v:=c) hz
      rw[Oc,xc]at h1;rw[h1,r5,p4,GH (na _),HS hd,ph,Hd]
     ·intro k h1 h2
      rw[ec]at h2;rw[Ge D',r6 k D'];exact p5 k D' D'
  ·obtain rfl:i=x.length:=D'
   clear ih;rw[GH (na _)]at p4;rw[<-p4,<-p2];repeat' (first|(apply A7<;>intro hc<;>try omega)|apply AQ)<;>conv=>whnf
   clear p5;refine K5 1000 N.KS rfl rfl ?_;(repeat' (apply AQ<;>conv=>whnf))
   refine GV (λ n=>n) (λ(n:Nat)=>n<=(O).length /\ ∀ i,n<=i->i<(O).length->(O)[i]? = some 0) (λ n=>[(3,.int .i64 n)]) (λ_=>[]) [] [] (O).length (by first|exact w_|(simp only[ec,He];exact w_)) ⟨na _,λ i h1 h2=>D'⟩ ?_;intro n ⟨p1,p2⟩ ih;rcases n with _|n
   ·repeat' (first|(apply A7<;>intro hc<;>try omega)|apply AQ)<;>conv=>whnf
    refine M7 0 D' D' ?_;conv=>whnf
    refine ⟨rfl,_,rfl,?_⟩;conv=>whnf
    have hm:=p1;have iw:=LD (l:=O) G' p1 p2 (Or.inl rfl);clear ih p1 p2;(refine NK (enc:=BK) (λ_=>rfl) D' ?_;(conv=>whnf);exact B1 (by rw[<-iw];rfl) (by simp only[CI,true_and];exact EW _))
   ·have e1:((n+1:Nat):Int)-1=n:=D'
    repeat' (first|(apply A7<;>intro hc<;>try omega)|(apply CB;omega)|(apply EP;omega)|(refine dZ G' ?_ (λ v hv hb => ?_);omega)|apply AQ)<;>conv=>whnf
    ·rw[e1]
     exact DB [] (ih n D' ⟨D',λ i h1 h2=>by
      by_cases h:i=n
      ·subst h
       rw[e1,Gb]at hv;rw[hv];congr 1;omega
      ·exact p2 i D' h2⟩)
    ·refine M7 (n+1) D' D' ?_
     (conv=>whnf)
     refine ⟨rfl,_,rfl,?_⟩;conv=>whnf
     rw[e1,Gb]at hv;have hm:=p1;have iw:=LD (l:=O) G' p1 p2 (Or.inr ⟨_,hv,D'⟩);clear ih p1 p2 hv;(refine NK (enc:=BK) (λ_=>rfl) D' ?_;(conv=>whnf);exact B1 (by rw[<-iw];rfl) (by simp only[CI,true_and];exact EW _))
end Go.j4

namespace Go.j4
open F
section
variable {K:AV->Prop} {a b s:Nat} {k':IntKind}
theorem Ab2 (hs:s<=32) (hk:K (.int .u32 ((ZV a s:Nat):Int))):A0 .shl .u32 (a:Int) k' (s:Int) K:=by
 refine vR (show s<=IntKind.u32.bits from hs) ?_;rw[wrap_u32,<-Abf];exact hk
theorem YW (hs:s<=64) (h:a*2^s<=18446744073709551615) (hk:K (.int .u64 ((a*2^s:Nat):Int))):A0 .shl .u64 (a:Int) k' (s:Int) K:=by
 refine vR (show s<=IntKind.u64.bits from hs) ?_;rw[IntWalk.u64_in _ D'];exact hk
theorem vS (n:Nat) (hx:a%2^n=0) (hy:b<2^n) (h:a+b<=4294967295) (hk:K (.int .u32 ((a+b:Nat):Int))):A0 .or .u32 (a:Int) .u32 (b:Int) K :=
 vQ n hx hy (show a+b<4294967296 by omega) (IntWalk.u32_in _ D') hk
theorem Ajc (n:Nat) (hx:b%2^n=0) (hy:a<2^n) (h:a+b<=4294967295) (hk:K (.int .u32 ((a+b:Nat):Int))):A0 .or .u32 (a:Int) .u32 (b:Int) K:=by
 have e:G5 .or .u32 (a:Int) .u32 (b:Int)=G5 .or .u32 (b:Int) .u32 (a:Int):=by
  simp only[G5,if_true,BitVec.or_comm]
 rw[Jg]at hk h;obtain ⟨v,h1,h2⟩:=vS (K:=K) n hx hy h hk;exact ⟨v,by rw[e];exact h1,h2⟩
theorem Ajj (hs:s<=32) (hk:K (.int .u32 ((a/2^s:Nat):Int))):A0 .shr .u32 (a:Int) k' (s:Int) K:=YV (show s<=IntKind.u32.bits from hs) hk
end
attribute [local irreducible] AJ A5 BZ A0 FH B2 C6 C9 EO EC E0 HH D6 CT EJ E3 AM CZ BH pw EF DP FF FR F5 F7 E6 DQ GN
variable {L:Lib}
def vP (a:a_) (s:Nat) (o:a_):Prop:=CM o/\(a.length<=o.length/\o.length<=a.length+1)/\(val a*2^s<4294967296^o.length->val o=val a*2^s)
theorem Aqs {a o:a_} {s lo:Nat} (hD:CM o) (hl:o.length=a.length) (h:val (o.take a.length)+4294967296^a.length*lo=val (a.take a.length)*2^s):vP a s o:=by
 refine ⟨hD,D',λ n7 => ?_⟩;rw[GH D',GH (na _)]at h;rw[hl]at n7;have:lo=0:=by
  rcases Vd lo with h0|h0
  ·exact h0
  ·have:4294967296^a.length*1<=4294967296^a.length*lo:=zc _ h0
   omega
 subst this;omega
theorem Afe {a o:a_} {s lo:Nat} (hD:CM o) (zn:lo<4294967296) (hl:o.length=a.length+1) (h:val (o.take a.length)+4294967296^a.length*lo=val (a.take a.length)*2^s):vP a s (o.set a.length lo):=by
 refine ⟨hD.set _ zn,by simp;omega,λ_ => ?_⟩;have h1:=KW (v:=lo) (show a.length<o.length by omega);rw[GH W_,h,GH (na _)]at h1;exact h1
theorem An5 (N:c9 L) (a:a_) (q:Bool) (s n:Nat) (hA:CM a) (hs:s<=31) (hn:a.length<=n/\n<=a.length+1) (la:a.length<=1099511627776) : ∃ r,Ev L 71 [.sl q (a.map BK),.int .u64 (s:Int),.int .i64 (n:Int)] r /\ ∃ o,vP a s o/\o.length=n/\r = .sl false (o.map BK):=by
 refine Ev.xE N.SN rfl rfl ?_;(repeat' (apply AQ<;>conv=>whnf))
 refine I2 (enc:=BK) 0 n rfl rfl D' ?_;conv=>whnf
 (repeat' (apply BW<;>conv=>whnf))
 refine LK (λ i _ _=>a.length-i) (λ(i:Nat) (o:a_) (lo:Nat)=>i<=a.length/\o.length=n/\CM o/\lo<2^s/\val (o.take i)+4294967296^i*lo=val (a.take i)*2^s) (λ i o lo=>[(8,.int .u32 (lo:Int)),(15,.int .i64 i)]) (λ i o lo=>[(71012,71012,.rw 1 (o.map BK))]) 0 (Wa n 0) 0 ⟨D',p_,QK _,Nc s,by simp [val]⟩ ?_;intro i o lo ⟨p1,p2,p3,p4,p5⟩ ih;have Cr:=nU (s:=s) D';by_cases hi:i<a.length
 ·obtain ⟨d,hd⟩:=X_ a i hi
  have ik:=hA.at hd;obtain ⟨f1,f2,f3,f4⟩:=gZ (s:=s) ik D';repeat' (first|(apply A7<;>intro hc<;>try omega)|(refine CU G' ?_ rfl ?_;omega)|apply AQ)<;>conv=>whnf
  refine Ab2 D' ?_;conv=>whnf
  skip
  refine vS s f1 p4 D' ?_;conv=>whnf
  repeat' (first|(apply CB;omega)|fail)<;>conv=>whnf
  refine JM D' ?_;conv=>whnf
  repeat' (first|(apply E2;omega)|fail)<;>conv=>whnf
  refine YW D' f4 ?_;conv=>whnf
  repeat' (first|(apply B5;omega)|apply JU|(apply IA;omega))<;>conv=>whnf
  rw[<-gY];refine EA [] w_ (ih (i+1) _ _ D' ⟨D',by simpa using p2,p3.set _ D',f2,?_⟩);rw[KW D',HS hd,Hb];exact Aff p5
 ·obtain rfl:i=a.length:=D'
  clear ih;repeat' (first|(apply A7<;>intro hc<;>try omega)|(apply CB;omega)|apply BW|apply AQ)<;>conv=>whnf
  ·refine JM D' ?_
   (conv=>whnf)
   skip
   refine ⟨_,?_,_,Afe p3 D' D' p5,by simpa using p2,rfl⟩;conv=>whnf
   refine G9 (enc:=BK) (λ_=>rfl) rfl (by simp [p2]) ?_;conv=>whnf
   exact B1 rfl (by simp only[CI,true_and];exact EW _)
  ·refine ⟨_,?_,_,Aqs p3 D' p5,p2,rfl⟩
   (conv=>whnf)
   refine G9 (enc:=BK) (λ_=>rfl) rfl (by simp [p2]) ?_;conv=>whnf
   exact B1 rfl (by simp only[CI,true_and];exact EW _)
theorem An6 (N:c9 L) (a:a_) (q:Bool) (s:Nat) (hA:CM a) (hs:s<=31) (la:a.length<=1099511627776) : ∃ r,Ev L 72 [.sl q (a.map BK),.int .u64 (s:Int)] r /\ ∃ o,CM o/\o.length=a.length/\val o=val a/2^s/\r = .sl false (o.map BK):=by
 refine Ev.xE N.XH rfl rfl ?_;repeat' (first|apply BW|apply AQ)<;>conv=>whnf
 refine I2 (enc:=BK) 0 a.length rfl rfl D' ?_;conv=>whnf
 repeat' (first|(apply EP;omega)|apply BW)<;>conv=>whnf
 refine LK (λ n _ _=>n) (λ(n:Nat) (o:a_) (hi:Nat)=>n<=a.length/\o.length=a.length/\CM o/\hi=val (a.drop n)%2^s*2^(32-s)/\val (o.drop n)=val (a.drop n)/2^s) (λ n o hi=>[(6,.int .u32 (hi:Int)),(7,.int .i64 ((n:Int)-1))]) (λ n o hi=>[(10,10,.rw 1 (o.map BK))]) a.length (Wa a.length 0) 0 ⟨D',p_,QK _,by rw[Sb (na _)];simp [val],by rw[Sb (na _),Sb p_];simp [val]⟩ ?_;intro n o hi ⟨p1,p2,p3,p4,p5⟩ ih;rcases n with _|n
 ·repeat' (first|(apply A7<;>intro hc<;>try omega)|apply AQ)<;>conv=>whnf
  rw[Wb,Wb]at p5;refine ⟨_,?_,_,p3,p2,p5,rfl⟩;conv=>whnf
  refine G9 (enc:=BK) (λ_=>rfl) rfl p2.symm ?_;conv=>whnf
  exact B1 rfl (by simp only[CI,true_and];exact EW _)
 ·have e1:((n+1:Nat):Int)-1=n:=D'
  rw[e1];obtain ⟨d,hd⟩:=X_ a n;have ik:=hA.at hd;obtain ⟨f1,f2,f3⟩:=Afj (V:=val (a.drop (n+1))) ik (show s<=32 by omega);obtain ⟨g1,g2,g3,g4⟩:=gZ ik (show 32-s<=32 by omega);rw[<-p4]at f2 f3;repeat' (first|(apply A7<;>intro hc<;>try omega)|(refine CU G' ?_ rfl ?_;omega)|apply AQ)<;>conv=>whnf
  refine Ajj D' ?_;conv=>whnf
  skip
  refine Ajc (32-s) f2 f1 D' ?_;conv=>whnf
  repeat' (first|(apply CB;omega)|fail)<;>conv=>whnf
  refine JM D' ?_;conv=>whnf
  repeat' (first|(apply qD;omega)|(apply E2;omega)|(refine CU G' ?_ rfl ?_;omega))<;>conv=>whnf
  rw[show IH 32 s=32-s by rw[iM];omega];refine YW D' g4 ?_;conv=>whnf
  repeat' (first|(apply EP;omega)|apply J7)<;>conv=>whnf
  rw[Aqz D'];refine EA [] w_ (ih n _ _ D' ⟨D',by simpa using p2,p3.set _ D',?_,?_⟩)
  ·rw[M5 hd,Afk D']
  ·rw[M5 (l:=o.set n (d/2^s+hi)) (d:=d/2^s+hi) (by rw[ye D']),Vc D',p5,M5 hd,Zc D',<-p4]
theorem sN : ∀ n<256,(Wa 1 0++Wa 1 1++Wa 2 2++Wa 4 3++Wa 8 4++Wa 16 5++Wa 32 6++Wa 64 7++Wa 128 8)[n]? = some (u7 n):=by decide +kernel
theorem Ant (N:c9 L) (x:Nat) (hx:x<4294967296):Ev L 63 [.int .u32 (x:Int)] (.int .i64 (u7 x:Int)):=by
 have ue : ∀ y<256,u7 y<=8:=λ y h=>qN (k:=8) h
 refine Ev.x N.bF rfl rfl ?_;repeat' (first|(apply A7<;>intro hc<;>try omega)|(apply B5;omega)|apply Ai9|apply Ajb|(apply AiM;omega)|apply AQ)<;>conv=>whnf
 ·have hb8:=ue (x/65536/256) D'
  refine qK (sN _ D') ?_;conv=>whnf
  repeat' (first|(apply B5;omega)|(apply dS;omega))<;>conv=>whnf
  have h1:u7 (x/65536)+16=u7 x:=lU 16 (x:=x) D';have h2:u7 (x/65536/256)+8=u7 (x/65536):=lU 8 (x:=x/65536) D';refine F2 ?_;rw[<-h1,<-h2];omega
 ·have hb8:=ue (x/65536) D'
  refine qK (sN _ D') ?_;conv=>whnf
  repeat' (first|(apply B5;omega)|(apply dS;omega))<;>conv=>whnf
  have h1:u7 (x/65536)+16=u7 x:=lU 16 (x:=x) D';refine F2 ?_;rw[<-h1];omega
 ·have hb8:=ue (x/256) D'
  refine qK (sN _ D') ?_;conv=>whnf
  repeat' (first|(apply B5;omega)|(apply dS;omega))<;>conv=>whnf
  have h2:u7 (x/256)+8=u7 x:=lU 8 (x:=x) D';refine F2 ?_;rw[<-h2];omega
 ·have hb8:=ue (x) D'
  refine qK (sN _ D') ?_;conv=>whnf
  repeat' (first|(apply B5;omega)|(apply dS;omega))<;>conv=>whnf
  refine F2 ?_;omega
theorem AdJ (N:c9 L) (x:Nat) (hx:x<4294967296):Ev L 64 [.int .u32 (x:Int)] (.int .i64 ((32-u7 x:Nat):Int)):=by
 have h:=qN (k:=32) hx;refine Ev.x N.bE rfl rfl ?_;repeat' (first|(apply EP;omega)|apply AQ|refine AU (Ant N x hx) ?_)<;>conv=>whnf
 refine F2 ?_;omega
end Go.j4

namespace Go.j4
open F
attribute [local irreducible] AJ A5 BZ A0 FH B2 C6 C9 EO EC E0 HH D6 CT EJ E3 AM CZ BH pw EF DP FF FR F5 F7 E6 DQ GN
variable {L:Lib}
theorem RD (l:a_):CI (.sl false (l.map BK)):=by
 simp only[CI,true_and];exact EW l
theorem Acl {M:Mem} {v:AV} {ky t z off len s:Nat} {l:a_} (hv:v = .row ky t z off len) (h:c7 M ky=some (s,.rw 1 (l.map BK))):eG M v=none:=by
 subst hv;unfold eG;split
 ·rename_i e
  simp only[AV.row.injEq]at e;obtain ⟨rfl,_⟩:=e;rw[h];cases l with
  | nil=>rfl
  | cons a l=>cases l<;>rfl
 ·rfl
theorem K1 (N:a8 L) (l:a_) (q:Bool) (hD:CM l) (hl:l.length<=1099511627776):Ev L 101 [.sl q (l.map BK)] (.sl false ((dg (val l)).map BK)):=by
 refine Ev.x N.NV rfl rfl ?_;repeat' (first|apply BW|apply AQ)<;>conv=>whnf
 refine FP (λ n=>n) (λ(n:Nat)=>n<=l.length /\ ∀ i,n<=i->i<l.length->l[i]? = some 0) (λ n=>[(3,.int .i64 n)]) (λ_=>[]) l.length ⟨na _,λ i h1 h2=>D'⟩ ?_;intro n ⟨p1,p2⟩ ih;rcases n with _|n
 ·have hv:=LD hD p1 p2 (Or.inl rfl)
  rw[<-hv];clear ih;repeat' (first|(apply A7<;>intro hc<;>try omega)|apply AQ)<;>conv=>whnf
  refine eB (k:=0) (λ_=>rfl) D' ?_;conv=>whnf
  refine Z6 (enc:=BK) (λ_=>rfl) V_ V_ ?_;conv=>whnf
  (repeat' ((refine G9 (λ_=>rfl) rfl ?_ ?_;(first|rfl|simp))<;>conv=>whnf))
  exact B1 rfl (RD _)
 ·have e1:((n+1:Nat):Int)-1=n:=D'
  repeat' (first|(apply A7<;>intro hc<;>try omega)|(apply EP;omega)|(refine Z9 G' ?_ (λ e he hb => ?_);omega)|apply AQ)<;>conv=>whnf
  ·rw[e1]
   exact DB [] (ih n D' ⟨D',λ i h1 h2=>by
    by_cases h:i=n
    ·subst h
     rw[e1,Gb]at he;rw[he];congr 1;omega
    ·exact p2 i D' h2⟩)
  ·rw[e1,Gb]at he
   have hv:=LD hD p1 p2 (Or.inr ⟨e,he,D'⟩);rw[<-hv];clear ih;refine eB (k:=n+1) (λ_=>rfl) D' ?_;conv=>whnf
   refine Z6 (enc:=BK) (λ_=>rfl) V_ V_ ?_;conv=>whnf
   (repeat' ((refine G9 (λ_=>rfl) rfl ?_ ?_;(first|rfl|simp))<;>conv=>whnf))
   exact B1 rfl (RD _)
theorem yR (N:a8 L) (a b:a_) (q1 q2:Bool) (hA:CM a) (hB:CM b) (la:a.length<=1099511627776) (lb:b.length<=1099511627776):Ev L 102 [.sl q1 (a.map BK),.sl q2 (b.map BK)] (.int .i64 (GE (val a) (val b))):=by
 have t1:=λ q=>K1 N a q hA la
 have t2:=λ q=>K1 N b q hB lb
 have l1:=IQ hA;have l2:=IQ hB;have d1:=HM (val a);have d2:=HM (val b);refine Ev.x N.X4 rfl rfl ?_;by_cases hlen:(dg (val a)).length=(dg (val b)).length
 ·have v1:=EH (val a)
  have v2:=EH (val b);generalize dg (val a)=X at *;generalize dg (val b)=Y at *;repeat' (first|(apply A7<;>intro hc<;>try omega)|(apply EP;omega)|apply BW|apply AQ|refine AU (t1 _) ?_|refine AU (t2 _) ?_)<;>conv=>whnf
  refine FP (λ n=>n) (λ(n:Nat)=>n<=X.length/\X.drop n=Y.drop n) (λ n=>[(5,.int .i64 ((n:Int)-1))]) (λ_=>[]) X.length ⟨na _,by rw[Sb (na _),Sb D']⟩ ?_;intro n ⟨p1,p2⟩ ih;rcases n with _|n
  ·repeat' (first|(apply A7<;>intro hc<;>try omega)|apply AQ)<;>conv=>whnf
   rw[Wb,Wb]at p2;exact F2 (eL (by rw[<-v1,<-v2,p2]))
  ·have e1:((n+1:Nat):Int)-1=n:=D'
   rw[e1];obtain ⟨x,hx⟩:=X_ X n;obtain ⟨y,hy⟩:=X_ Y n;rcases Sf x y with h|h|h
   ·have:=uX d1 d2 hlen hx hy p2 h
    repeat' (first|(apply A7<;>intro hc<;>try omega)|(refine CU G' ?_ rfl ?_;omega)|apply AQ)<;>conv=>whnf
    exact F2 (OM D')
   ·subst h
    repeat' (first|(apply A7<;>intro hc<;>try omega)|(apply EP;omega)|(refine CU G' ?_ rfl ?_;omega)|apply AQ)<;>conv=>whnf
    refine EA [] w_ (ih n D' ⟨D',?_⟩);obtain ⟨i1,e1⟩:=zS hx;obtain ⟨i2,e2⟩:=zS hy;rw[Ic i1,Ic i2,p2,e1,e2]
   ·have:=uX d2 d1 hlen.symm hy hx p2.symm h
    repeat' (first|(apply A7<;>intro hc<;>try omega)|(refine CU G' ?_ rfl ?_;omega)|apply AQ)<;>conv=>whnf
    exact F2 (WY D')
 ·rcases Sf (dg (val a)).length (dg (val b)).length with h1|h1|h1
  ·have:=lE h1
   repeat' (first|(apply A7<;>intro hc<;>try omega)|apply BW|apply AQ|refine AU (t1 _) ?_|refine AU (t2 _) ?_)<;>conv=>whnf
   exact F2 (OM D')
  ·exact absurd h1 hlen
  ·have:=lE h1
   repeat' (first|(apply A7<;>intro hc<;>try omega)|apply BW|apply AQ|refine AU (t1 _) ?_|refine AU (t2 _) ?_)<;>conv=>whnf
   exact F2 (WY D')
theorem Zq {y:a_} (i:Nat):val (y.take (i+1))=val (y.take i)+4294967296^i*y.getD i 0:=by
 rcases Ah i y.length with h|h
 ·rw[HS (zE h),LQ (zE h)]
 ·rw[<-getD_none h,GH h,GH D'];omega
theorem Ad3 (N:a8 L) (a b:a_) (q1 q2:Bool) (hA:CM a) (hB:CM b) (la:a.length<=549755813888) (lb:b.length<=549755813888):Ev L 103 [.sl q1 (a.map BK),.sl q2 (b.map BK)] (.sl false ((dg (val a+val b)).map BK)):=by
 refine Ev.x N.X2 rfl rfl ?_;(repeat' (apply AQ<;>conv=>whnf))
 refine LK (λ i _ _=>a.length+b.length-i) (λ(i:Nat) (o:a_) (c:Nat)=>(i<=a.length\/i<=b.length)/\o.length=i/\CM o/\c<=1/\val o+4294967296^i*c=val (a.take i)+val (b.take i)) (λ i o c=>[(7,.int .i64 i),(6,.int .u64 (c:Int)),(5,.row 5 0 1 0 o.length)]) (λ i o c=>[(5,5,.rw 1 (o.map BK))]) 0 [] 0 ⟨D',rfl,jL,D',by simp [val]⟩ ?_;intro i o c ⟨p1,p2,p3,p4,p5⟩ ih;by_cases hi:i<a.length\/i<b.length
 ·have g1:=Zq (y:=a) i
  have g2:=Zq (y:=b) i;have k1:=aV hA i;have k2:=aV hB i;have m4 : ∀ t,t=c+a.getD i 0+b.getD i 0->val (o++[t%4294967296])+4294967296^(i+1)*(t/4294967296)=val (a.take (i+1))+val (b.take (i+1)):=λ t ht=>by
   have h3:=YZ (val o) (4294967296^i) t;rw[WL,p2,g1,g2,Hb];rw[h3,ht,fc,fc];omega
  by_cases h1:i<a.length
  ·obtain ⟨x,hx⟩:=X_ a i h1
   have hxb:=hA.at hx;rw[LQ hx]at m4;by_cases h2:i<b.length
   ·obtain ⟨y,hy⟩:=X_ b i h2
    have Es:=hB.at hy;rw[LQ hy]at m4;repeat' (first|(apply A7<;>intro hc<;>try omega)|(apply KY;omega)|(apply E2;omega)|apply J7|apply BW|(refine CU G' ?_ rfl ?_;omega)|apply HL|apply AQ)<;>conv=>whnf
    refine H9 (enc:=BK) (((c+x+y)%4294967296:Nat)) rfl rfl rfl D' D' ?_;conv=>whnf
    repeat' (first|(apply B5;omega)|apply JU)<;>conv=>whnf
    refine EA [(5,46)] w_ (ih (i+1) (o++[(c+x+y)%4294967296]) ((c+x+y)/4294967296) D' ⟨D',by simp;omega,p3.append (NF D'),D',?_⟩);exact m4 (c+x+y) D'
   ·rw[<-getD_none (show b.length<=i by omega)]at m4
    repeat' (first|(apply A7<;>intro hc<;>try omega)|(apply KY;omega)|(apply E2;omega)|apply J7|apply BW|(refine CU G' ?_ rfl ?_;omega)|apply HL|apply AQ)<;>conv=>whnf
    refine H9 (enc:=BK) (((c+x)%4294967296:Nat)) rfl rfl rfl D' D' ?_;conv=>whnf
    repeat' (first|(apply B5;omega)|apply JU)<;>conv=>whnf
    refine EA [(5,46)] w_ (ih (i+1) (o++[(c+x)%4294967296]) ((c+x)/4294967296) D' ⟨D',by simp;omega,p3.append (NF D'),D',?_⟩);exact m4 (c+x) D'
  ·obtain ⟨y,hy⟩:=X_ b i
   have Es:=hB.at hy;rw[LQ hy,<-getD_none (show a.length<=i by omega)]at m4;repeat' (first|(apply A7<;>intro hc<;>try omega)|(apply KY;omega)|(apply E2;omega)|apply J7|apply BW|(refine CU G' ?_ rfl ?_;omega)|apply HL|apply AQ)<;>conv=>whnf
   refine H9 (enc:=BK) (((c+y)%4294967296:Nat)) rfl rfl rfl D' D' ?_;conv=>whnf
   repeat' (first|(apply B5;omega)|apply JU)<;>conv=>whnf
   refine EA [(5,46)] w_ (ih (i+1) (o++[(c+y)%4294967296]) ((c+y)/4294967296) D' ⟨D',by simp;omega,p3.append (NF D'),D',?_⟩);exact m4 (c+y) D'
 ·clear ih
  have hv:val (o++[c])=val a+val b:=by
   rw[GH D',GH D']at p5;rw[WL,p2,p5]
  have hT:=λ q=>K1 N (o++[c]) q (p3.append (NF D')) W_
  rw[hv]at hT;repeat' (first|(apply A7<;>intro hc<;>try omega)|(apply IA;omega)|apply BW|apply HL|apply AQ)<;>conv=>whnf
  refine H9 (enc:=BK) c rfl rfl rfl D' D' ?_;conv=>whnf
  repeat' (first|(refine G9 (λ_=>rfl) rfl ?_ ?_;(first|rfl|simp))|refine AU (hT _) ?_)<;>conv=>whnf
  exact B1 rfl (RD _)
theorem qY {a b:Nat} (h:b<=a):0<=GE a b:=by unfold GE;split<;>(try split)<;>omega
theorem ArM {V Y X p d e bw have' take w jb:Nat} (h:V+Y=X+p*bw) (h1:take=bw+e) (h2:(have'=d/\jb=0/\take<=d)\/(have'=d+4294967296/\jb=1/\d<take)) (h3:w+take=have'):V+p*w+(Y+p*e)=X+p*d+p*4294967296*jb:=by
 have h4:w+bw+e=d+4294967296*jb:=D'
 have h5:p*(w+bw+e)=p*(d+4294967296*jb):=by rw[h4]
 rw[fc,fc,fc,<-Hd]at h5;omega
theorem Af6 (N:a8 L) (x y:a_) (hX:CM x) (hY:CM y) (lx:x.length<=549755813888) (ly:y.length<=549755813888) (hle:val y<=val x) :
  AJ L [It.lp QS.l1,It.g8 0,It.code (((DE.ops QS.Gu false).dr [1,5,6,7,21,53,54] []).seq DE.ret)]
  [(7,AV.int IntKind.i64 0),(6,AV.int IntKind.u64 0),(5,AV.row 101021 0 1 0 x.length),(1,AV.sl false (Od BK y))]
  [(101021,101021,C4.rw 1 (Od BK x))]
  (aA QS (AV.sl false (Od BK (dg (val x-val y))))):=by
 refine LK (λ i _ _=>x.length-i) (λ(i:Nat) (o:a_) (bw:Nat)=>i<=x.length/\o.length=x.length/\CM o/\bw<=1/\o.drop i=x.drop i/\val (o.take i)+val (y.take i)=val (x.take i)+4294967296^i*bw) (λ i o bw=>[(7,.int .i64 i),(6,.int .u64 (bw:Int))]) (λ i o bw=>[(101021,101021,.rw 1 (o.map BK))]) 0 x 0 ⟨D',rfl,hX,D',rfl,by simp [val]⟩ ?_;intro i o bw ⟨p1,p2,p3,p4,p5,p6⟩ ih;by_cases hi:i<x.length
 ·obtain ⟨d,hd⟩:=X_ o i
  have ik:=p3.at hd;have hxi:x[i]? = some d:=by
   have e1:(o.drop i)[0]? = (x.drop i)[0]? := by rw[p5]
   simpa [hd] using e1.symm
  have g1:=HS hxi;have g2:=Zq (y:=y) i;have ge:=aV hY i;have m4 : ∀ have' take w jb,take=bw+y.getD i 0->((have'=d/\jb=0/\take<=d)\/(have'=d+4294967296/\jb=1/\d<take))->w+take=have'->val ((o.set i w).take (i+1))+val (y.take (i+1))=val (x.take (i+1))+4294967296^(i+1)*jb:=λ have' take w jb a1 a2 a3=>by
   rw[KW D',g1,g2,Hb];exact ArM p6 a1 a2 a3
  have Ad : ∀ w,(o.set i w).drop (i+1)=x.drop (i+1):=λ w=>by
   rw[Vc D'];have e1:(o.drop i).drop 1=(x.drop i).drop 1:=by rw[p5]
   simpa using e1
  by_cases hy:i<y.length
  ·obtain ⟨e,he⟩:=X_ y i hy
   have heb:=hY.at he;rw[LQ he]at m4;by_cases n7:d<bw+e
   ·have h3:=m4 (d+4294967296) (bw+e) (d+4294967296-(bw+e)) 1 D' (Or.inr ⟨rfl,rfl,n7⟩) D'
    repeat' (first|(apply A7<;>intro hc<;>try omega)|(apply CB;omega)|(apply KY;omega)|(apply QI;omega;omega)|(apply pZ;omega)|(apply E2;omega)|(apply IA;omega)|apply BW|(refine CU G' ?_ rfl ?_;omega)|refine RA G' ?_|apply AQ)<;>conv=>whnf
    refine JM D' ?_;conv=>whnf
    repeat' (first|(apply B5;omega)|fail)<;>conv=>whnf
    exact EA [] w_ (ih (i+1) (o.set i (d+4294967296-(bw+e))) 1 D' ⟨D',by simpa using p2,p3.set _ D',D',Ad _,h3⟩)
   ·have h3:=m4 d (bw+e) (d-(bw+e)) 0 D' (Or.inl ⟨rfl,rfl,D'⟩) D'
    repeat' (first|(apply A7<;>intro hc<;>try omega)|(apply CB;omega)|(apply KY;omega)|(apply QI;omega;omega)|(apply E2;omega)|(apply IA;omega)|apply BW|(refine CU G' ?_ rfl ?_;omega)|refine RA G' ?_|apply AQ)<;>conv=>whnf
    refine JM D' ?_;conv=>whnf
    repeat' (first|(apply B5;omega)|fail)<;>conv=>whnf
    exact EA [] w_ (ih (i+1) (o.set i (d-(bw+e))) 0 D' ⟨D',by simpa using p2,p3.set _ D',D',Ad _,h3⟩)
  ·rw[<-getD_none (show y.length<=i by omega)]at m4
   by_cases n7:d<bw
   ·have h3:=m4 (d+4294967296) (bw) (d+4294967296-(bw)) 1 D' (Or.inr ⟨rfl,rfl,n7⟩) D'
    repeat' (first|(apply A7<;>intro hc<;>try omega)|(apply CB;omega)|(apply QI;omega;omega)|(apply pZ;omega)|(apply E2;omega)|(apply IA;omega)|apply BW|refine RA G' ?_|apply AQ)<;>conv=>whnf
    refine JM D' ?_;conv=>whnf
    repeat' (first|(apply B5;omega)|fail)<;>conv=>whnf
    exact EA [] w_ (ih (i+1) (o.set i (d+4294967296-(bw))) 1 D' ⟨D',by simpa using p2,p3.set _ D',D',Ad _,h3⟩)
   ·have h3:=m4 d (bw) (d-(bw)) 0 D' (Or.inl ⟨rfl,rfl,D'⟩) D'
    repeat' (first|(apply A7<;>intro hc<;>try omega)|(apply CB;omega)|(apply QI;omega;omega)|(apply E2;omega)|(apply IA;omega)|apply BW|refine RA G' ?_|apply AQ)<;>conv=>whnf
    refine JM D' ?_;conv=>whnf
    repeat' (first|(apply B5;omega)|fail)<;>conv=>whnf
    exact EA [] w_ (ih (i+1) (o.set i (d-(bw))) 0 D' ⟨D',by simpa using p2,p3.set _ D',D',Ad _,h3⟩)
 ·obtain rfl:i=x.length:=D'
  clear ih;rw[GH D',GH (na _)]at p6;have h1:=JD p3;rw[p2]at h1;have h2:val (y.take x.length)<=val y:=by have:=iL y x.length;omega
  have Bg:bw=0:=by
   rcases Vd bw with h|h
   ·exact h
   ·have:bw=1:=D'
    subst this;omega
  subst Bg;have hve:val (y.take x.length)=val y:=by
   have h3:=iL y x.length;rcases Vd (val (y.drop x.length)) with h|h
   ·rw[h]at h3;omega
   ·have h4:4294967296^x.length*1<=4294967296^x.length*val (y.drop x.length):=zc _ h
    have h5:=JD hX;omega
  have hv:val o=val x-val y:=D'
  have hT:=λ q=>K1 N o q p3 D'
  rw[<-hv,<-p2];repeat' (first|(apply A7<;>intro hc<;>try omega)|(refine G9 (λ_=>rfl) rfl ?_ ?_;(first|rfl|simp))|apply AQ|refine AU (hT _) ?_)<;>conv=>whnf
  exact B1 rfl (RD _)
theorem yT (N:a8 L) (a b:a_) (q1 q2:Bool) (hA:CM a) (hB:CM b) (la:a.length<=549755813888) (lb:b.length<=549755813888):Ev L 104 [.sl q1 (a.map BK),.sl q2 (b.map BK)] (.sl false ((dg (val a-val b)).map BK)):=by
 have n0:=λ q q'=>yR N a b q q' hA hB D' D'
 have t2:=λ q=>K1 N b q hB D'
 refine Ev.x N.QS rfl rfl ?_;by_cases n7:val a<val b
 ·rw[<-OM D']at n0
  rw[show val a-val b=0 by omega,I6];repeat' (first|(apply A7<;>intro hc<;>try omega)|apply AQ|refine AU (n0 _ _) ?_)<;>conv=>whnf
  exact B1 rfl (RD [])
 ·have vi:=qY (show val b<=val a by omega)
  generalize GE (val a) (val b)=cm at *;have d2:=HM (val b);have v2:=EH (val b);have l2:=IQ hB;rw[<-v2];rw[<-v2]at n7;generalize dg (val b)=y at *;have Vy : ∀ n,a.take n=dg (val a)->val (a.take n)=val a:=λ n h=>by rw[h,EH]
  repeat' (first|(apply A7<;>intro hc<;>try omega)|apply AQ|refine AU (n0 _ _) ?_|refine AU (t2 _) ?_)<;>conv=>whnf
  refine K5 1000 N.NV rfl rfl ?_;repeat' (first|apply BW|apply AQ)<;>conv=>whnf
  refine FP (λ n=>n) (λ(n:Nat)=>n<=a.length /\ ∀ i,n<=i->i<a.length->a[i]? = some 0) (λ n=>[(3,.int .i64 n)]) (λ_=>[]) a.length ⟨na _,λ i h1 h2=>D'⟩ ?_;intro n ⟨p1,p2⟩ ih;rcases n with _|n
  ·have hv:=Vy _ (LD hA p1 p2 (Or.inl rfl))
   clear ih;repeat' (first|(apply A7<;>intro hc<;>try omega)|apply AQ)<;>conv=>whnf
   refine eB (k:=0) (λ_=>rfl) D' ?_;conv=>whnf
   refine Z6 (enc:=BK) (λ_=>rfl) V_ V_ ?_;conv=>whnf
   refine ⟨rfl,_,rfl,?_⟩;conv=>whnf
   skip
   rw[<-hv];exact EA [] w_ (Af6 N (a.take 0) y (hA.take _) d2 p_ D' D')
  ·have e1:((n+1:Nat):Int)-1=n:=D'
   repeat' (first|(apply A7<;>intro hc<;>try omega)|(apply EP;omega)|(refine Z9 G' ?_ (λ e he hb => ?_);omega)|apply AQ)<;>conv=>whnf
   ·rw[e1]
    exact DB [] (ih n D' ⟨D',λ i h1 h2=>by
     by_cases h:i=n
     ·subst h
      rw[e1,Gb]at he;rw[he];congr 1;omega
     ·exact p2 i D' h2⟩)
   ·rw[e1,Gb]at he
    have hv:=Vy _ (LD hA p1 p2 (Or.inr ⟨_,he,D'⟩));clear ih;refine eB (k:=n+1) (λ_=>rfl) D' ?_;conv=>whnf
    refine Z6 (enc:=BK) (λ_=>rfl) V_ V_ ?_;conv=>whnf
    refine ⟨rfl,_,rfl,?_⟩;conv=>whnf
    skip
    rw[<-hv];exact EA [] w_ (Af6 N (a.take (n+1)) y (hA.take _) d2 V_ D' D')
theorem Aom (N:a8 L) (x y:a_) (q1 q2:Bool) (hA:CM x) (hB:CM y) (lab:x.length+y.length<=549755813888):Ev L 105 [.sl q1 (x.map BK),.sl q2 (y.map BK)] (.sl false ((dg (val x*val y)).map BK)):=by
 refine Ev.x N.U7 rfl rfl ?_;repeat' (first|(apply B5;omega)|apply BW|apply AQ)<;>conv=>whnf
 refine I2 (enc:=BK) 0 (x.length+y.length+1) rfl D' D' ?_;conv=>whnf
 skip
 refine LJ (λ i _=>x.length-i) (λ(i:Nat) (o:a_)=>i<=x.length/\o.length=x.length+y.length+1/\CM o/\val o=val (x.take i)*val y /\ ∀ k,i+y.length<=k->k<o.length->o[k]? = some 0) (λ i o=>[(6,.int .i64 i)]) (λ i o=>[(15,15,.rw 1 (o.map BK))]) 0 (Wa (x.length+y.length+1) 0) ⟨D',p_,QK _,by simp [val,vB],λ k h1 h2=>by simp at h2;simp [h2]⟩ ?_;intro i O ⟨p1,p2,p3,p4,p5⟩ ih;by_cases hi:i<x.length
 ·obtain ⟨d,hd⟩:=X_ x i hi
  have ik:=hA.at hd;repeat' (first|(apply A7<;>intro hc<;>try omega)|apply BW|apply AQ)<;>conv=>whnf
  refine LK (λ j _ _=>y.length-j) (λ(j:Nat) (o:a_) (c:Nat)=>j<=y.length/\o.length=x.length+y.length+1/\CM o/\c<4294967296/\val o+4294967296^(i+j)*c=val O+4294967296^i*(d*val (y.take j)) /\ ∀ k,i+j<=k->o[k]? = O[k]?) (λ j o c=>[(7,.int .u64 (c:Int)),(8,.int .i64 j)]) (λ j o c=>[(15,15,.rw 1 (o.map BK))]) 0 O 0 ⟨D',p2,p3,D',by simp [val],λ_ _=>rfl⟩ ?_;intro j o c ⟨r1,r2,r3,r4,r5,r6⟩ jh;have e1:((i:Int)+j).toNat=i+j:=D'
  by_cases hj:j<y.length
  ·obtain ⟨w,hw⟩:=X_ y j hj
   have Ep:=hB.at hw;have hm:=kE ik Ep;repeat' (first|(apply A7<;>intro hc<;>try omega)|(apply CB;omega)|(apply B5;omega)|(apply KY;omega)|(apply YT;omega)|(apply E2;omega)|apply J7|apply BW|(refine CU G' ?_ rfl ?_;omega)|(refine AbY G' ?_ (λ v hv hb => ?_);omega)|apply AQ)<;>conv=>whnf
   refine qJ (i+j) D' D' ?_;conv=>whnf
   repeat' (first|(apply B5;omega)|apply JU)<;>conv=>whnf
   refine EA [] w_ (jh (j+1) _ _ D' ⟨D',by simpa using r2,r3.set _ D',D',?_,?_⟩)
   ·have h1:=uY (v:=(c+(d*w+v))%4294967296) hv
    have h2:=YZ 0 (4294967296^(i+j)) (c+(d*w+v));rw[HS hw,show i+(j+1)=i+j+1 by omega,Hb (4294967296) (i+j)];have h3:4294967296^i*(d*(val (y.take j)+4294967296^j*w))=4294967296^i*(d*val (y.take j))+4294967296^(i+j)*(d*w):=by rw[yd];grind
    rw[h3];generalize 4294967296^(i+j)=P at *;rw[fc P c,fc P]at h2;omega
   ·intro k hk
    rw[Ge D'];exact r6 k D'
  ·obtain rfl:j=y.length:=D'
   clear jh;have hz:=r6 (i+y.length) D';rw[p5 (i+y.length) D' D']at hz;repeat' (first|(apply A7<;>intro hc<;>try omega)|(apply CB;omega)|(apply B5;omega)|(apply IA;omega)|apply BW|apply AQ)<;>conv=>whnf
   refine qJ (i+y.length) D' D' ?_;conv=>whnf
   repeat' (first|(apply B5;omega)|fail)<;>conv=>whnf
   refine EA [] w_ (ih (i+1) _ D' ⟨D',by simpa using r2,r3.set _ D',?_,?_⟩)
   ·have h1:=uY (v:=c) hz
    rw[Oc,xc]at h1;rw[h1,r5,p4,GH (na _),HS hd,ph,Hd]
   ·intro k h1 h2
    rw[ec]at h2;rw[Ge D',r6 k D'];exact p5 k D' D'
 ·obtain rfl:i=x.length:=D'
  clear ih;rw[GH (na _)]at p4;have hT:=λ q=>K1 N O q p3 D'
  rw[p4]at hT;rw[<-p2];repeat' (first|(apply A7<;>intro hc<;>try omega)|apply BW|(refine G9 (λ_=>rfl) rfl ?_ ?_;(first|rfl|simp))|apply AQ|refine AU (hT _) ?_)<;>conv=>whnf
  exact B1 rfl (RD _)
theorem AlV {d:Nat} (h0:d≠0) (hd:d<4294967296):dg d=[d]:=by
 rw[QJ h0,Hc hd,I6,Cd hd]
theorem Aok (N:a8 L) (d:Nat) (q:Bool) (h0:d≠0) (hd:d<4294967296):Ev L 106 [.sl q ([d].map BK)] (.int .i64 (u7 d:Int)):=by
 have hT:=λ q=>K1 N [d] q (NF hd) p_
 rw[show val [d]=d by simp [val],AlV h0 hd]at hT;have Dv:[d].length=1:=rfl;have Ho:[d][(([d].length:Int)-1).toNat]? = some d:=rfl;have hb:=qN (k:=32) hd;refine Ev.x N.X3 rfl rfl ?_;repeat' (first|(apply A7<;>intro hc<;>try omega)|(apply EP;omega)|(apply LN;omega)|apply BW|(refine CU G' ?_ rfl ?_;omega)|apply AQ|refine AU (hT _) ?_)<;>conv=>whnf
 refine LJ (λ_ x=>x) (λ(n x:Nat)=>n+u7 x=u7 d/\x<=d) (λ n x=>[(3,.int .i64 n),(4,.int .u32 (x:Int))]) (λ_ _=>[]) 0 d ⟨D',na _⟩ ?_;intro n x ⟨p1,p2⟩ ih;by_cases hx:x=0
 ·subst hx
  have:u7 0=0:=by unfold u7;simp
  repeat' (first|(apply A7<;>intro hc<;>try omega)|apply AQ)<;>conv=>whnf
  exact F2 D'
 ·have h1:u7 (x/2)+1=u7 x:=by
   by_cases h1:x=1
   ·subst h1;decide
   ·exact lU 1 (x:=x) D'
  repeat' (first|(apply A7<;>intro hc<;>try omega)|(apply B5;omega)|apply Ai8|apply AQ)<;>conv=>whnf
  exact DB [] (ih (n+1) (x/2) D' ⟨D',D'⟩)
theorem Ahj {V P X lo s d p t:Nat} (h:V+P*p*lo=P*(X*2^s)) (ht:t=lo+d*2^s):V+P*p*(t%4294967296)+P*p*4294967296*(t/4294967296)=P*((X+p*d)*2^s):=by
 have h1:=YZ V (P*p) t;rw[h1,ht];have:P*((X+p*d)*2^s)=P*(X*2^s)+P*p*(d*2^s):=v_
 rw[this,<-h,fc];omega
theorem Ad5 (N:a8 L) (l:a_) (q:Bool) (n:Nat) (hD:CM l) (hl:l.length<=549755813888) (hn:n<=65536):Ev L 107 [.sl q (l.map BK),.int .i64 (n:Int)] (.sl false ((dg (val l*2^n)).map BK)):=by
 have hT:=λ q=>K1 N l q hD D'
 have d1:=HM (val l);have v1:=EH (val l);have l1:=IQ hD;have hz:=OP (val l);refine Ev.x N.NT rfl rfl ?_;by_cases h0:val l=0
 ·rw[h0,Cf,I6]
  repeat' (first|(apply A7<;>intro hc<;>try omega)|apply BW|apply AQ|refine AU (hT _) ?_)<;>conv=>whnf
  exact B1 rfl (RD [])
 rw[<-v1];generalize dg (val l)=x at *;have js:n%32<32:=Qc _ D';have e1:(n:Int)/32=((n/32:Nat):Int):=D'
 have e2:(n:Int)%32=((n%32:Nat):Int):=D'
 repeat' (first|(apply A7<;>intro hc<;>try omega)|(refine VY ?_ ?_ (λ_ => ?_) (λ_ _ => ?_);omega;omega;all_goals try omega)|apply BW|apply AQ|refine AU (hT _) ?_)<;>conv=>whnf
 rw[e1];refine I2 (enc:=BK) 0 (n/32) rfl rfl D' ?_;conv=>whnf
 skip
 refine LK (λ i _ _=>x.length-i) (λ(i:Nat) (o:a_) (c:Nat)=>i<=x.length/\o.length=n/32+i/\CM o/\c<2^(n%32)/\val o+4294967296^(n/32)*4294967296^i*c=4294967296^(n/32)*(val (x.take i)*2^(n%32))) (λ i o c=>[(10,.int .i64 i),(9,.int .u64 (c:Int)),(8,.row 107069 0 1 0 (n/32+i))]) (λ i o c=>[(107069,107069,.rw 1 (o.map BK))]) 0 (Wa (n/32) 0) 0 ⟨D',p_,QK _,Nc _,by simp [val,vB]⟩ ?_;intro i o c ⟨p1,p2,p3,p4,p5⟩ ih;have Cr:=nU (s:=n%32) D';by_cases hi:i<x.length
 ·obtain ⟨d,hd⟩:=X_ x i hi
  have ik:=d1.at hd;obtain ⟨f1,f2,f3,f4⟩:=gZ (s:=n%32) ik D';have hr:=sT (show n%32<=64 by omega) f4;repeat' (first|(apply A7<;>intro hc<;>try omega)|(refine qE ?_ (λ_ _ _ => ?_) (λ_ _ _ _ => ?_);omega;all_goals try omega)|(apply E2;omega)|apply BW|(refine CU G' ?_ rfl ?_;omega)|apply AQ)<;>conv=>whnf
  rw[e2];refine YW D' f4 ?_;conv=>whnf
  skip
  refine qA (n%32) (Lf _ _) p4 D' ?_;conv=>whnf
  have m4:=Ahj (d:=d) p5 rfl;have uf:(c+d*2^(n%32))/4294967296<2^(n%32):=by
   rw[Ud D'];have:=zR (2^(n%32)) (show d<=4294967295 by omega)
   omega
  generalize c+d*2^(n%32)=t at *;repeat' (first|apply J7|apply HL)<;>conv=>whnf
  refine H9 (enc:=BK) (t%4294967296) rfl p2.symm rfl D' D' ?_;conv=>whnf
  repeat' (first|(apply B5;omega)|apply JU)<;>conv=>whnf
  rw[show (o++[t%4294967296]).length=n/32+(i+1) by simp [p2];omega];refine EA [(107069,107091)] w_ (ih (i+1) (o++[t%4294967296]) (t/4294967296) D' ⟨D',by simp;omega,p3.append (NF D'),uf,?_⟩);rw[WL,p2,HS hd,yd,Hb,<-Hd];exact m4
 ·obtain rfl:i=x.length:=D'
  clear ih;have Co:c<4294967296:=D'
  have hOD:CM (o++[c]):=p3.append (NF Co);have Jf:val (o++[c])=val x*2^n:=by
   rw[WL,p2,yd,p5,GH (na _)];have e3:2^n=4294967296^(n/32)*2^(n%32):=by
    rw[show 4294967296=2^32 from rfl,<-Ee,<-yd];congr 1;omega
   rw[e3];grind
  have Rq:(o++[c]).length=n/32+x.length+1:=by simp [p2]
  repeat' (first|(apply A7<;>intro hc<;>try omega)|(apply IA;omega)|apply BW|apply HL|apply AQ)<;>conv=>whnf
  refine H9 (enc:=BK) c rfl p2.symm rfl D' D' ?_;conv=>whnf
  rw[<-Jf,Rq];generalize o++[c]=O at *;rw[<-Rq];clear p3 p4 p5 Jf;refine K5 1000 N.NV rfl rfl ?_;(repeat' (apply AQ<;>conv=>whnf))
  refine FP (λ n=>n) (λ(n:Nat)=>n<=(O).length /\ ∀ i,n<=i->i<(O).length->(O)[i]? = some 0) (λ n=>[(3,.int .i64 n)]) (λ_=>[]) (O).length ⟨na _,λ i h1 h2=>D'⟩ ?_;intro n ⟨p1,p2⟩ ih;rcases n with _|n
  ·repeat' (first|(apply A7<;>intro hc<;>try omega)|apply AQ)<;>conv=>whnf
   refine M7 0 D' D' ?_;conv=>whnf
   have iw:=LD (l:=O) G' p1 p2 (Or.inl rfl);have q5:(pf 0 O).length<=(O).length:=by rw[yc];omega
   clear ih p2;refine qH (enc:=BK) D' ?_;conv=>whnf
   rw[Wb,Ke];generalize hT0:pf 0 O=T0 at *;refine Z6 (enc:=BK) (λ_=>rfl) D' D' ?_;conv=>whnf
   refine ⟨rfl,_,rfl,?_⟩;conv=>whnf
   (refine G9 (enc:=BK) (λ_=>rfl) rfl rfl ?_;(conv=>whnf);exact B1 (by rw[<-iw]) (RD _))
  ·have e1:((n+1:Nat):Int)-1=n:=D'
   repeat' (first|(apply A7<;>intro hc<;>try omega)|(apply CB;omega)|(apply EP;omega)|(refine dZ G' ?_ (λ v hv hb => ?_);omega)|apply AQ)<;>conv=>whnf
   ·rw[e1]
    exact DB [] (ih n D' ⟨D',λ i h1 h2=>by
     by_cases h:i=n
     ·subst h
      rw[e1,Gb]at hv;rw[hv];congr 1;omega
     ·exact p2 i D' h2⟩)
   ·refine M7 (n+1) D' D' ?_
    (conv=>whnf)
    rw[e1,Gb]at hv;have iw:=LD (l:=O) G' p1 p2 (Or.inr ⟨_,hv,D'⟩);have q5:(pf (n+1) O).length<=(O).length:=by rw[yc];omega
    clear ih p2 hv;(rw[Acl (l:=O)];rotate_left;exact rfl;exact rfl);conv=>whnf
    refine qH (enc:=BK) D' ?_;conv=>whnf
    rw[Wb,Ke];generalize hT0:pf (n+1) O=T0 at *;refine Z6 (enc:=BK) (λ_=>rfl) D' D' ?_;conv=>whnf
    refine ⟨rfl,_,rfl,?_⟩;conv=>whnf
    (refine G9 (enc:=BK) (λ_=>rfl) rfl rfl ?_;(conv=>whnf);exact B1 (by rw[<-iw]) (RD _))
theorem AsW {l:a_} (hD:CM l) (k:Nat) (hk:k<=l.length):val (l.drop k)=val l/4294967296^k:=by
 have h1:=RT l k hk;have h2:=JD (hD.take k);rw[yc,Ve hk]at h2;rw[h1,Nat.add_mul_div_left _ _ (Vi D'),Hc h2,oe]
theorem Ark (n:Nat):2^n=4294967296^(n/32)*2^(n%32):=by
 rw[show 4294967296=2^32 from rfl,<-Ee,<-yd];congr 1;omega
theorem AmV {d e V r:Nat} (hd:d<4294967296) (hr:r<32):(d+e*4294967296)/2^r%4294967296+4294967296*((e+4294967296*V)/2^r)=(d+4294967296*(e+4294967296*V))/2^r:=by
 obtain ⟨f1,f2,f3⟩:=Afj (V:=e) hd (show r<=32 by omega);rw[Zc (d:=d) (V:=e+4294967296*V) D',Afk (d:=e) (V:=V) D'];have h1:=Zc (d:=d) (V:=e) (s:=r) D';rw[show d+e*4294967296=d+4294967296*e by omega,h1];clear h1;generalize d/2^r=A at *;generalize e%2^r*2^(32-r)=Q at *;generalize e/2^r=Z at *;generalize 2^(32-r)=P at *;omega
theorem Aon (N:a8 L) (l:a_) (q:Bool) (n:Nat) (hD:CM l) (hl:l.length<=549755813888) (hn:1<=n/\n<=65536):Ev L 107 [.sl q (l.map BK),.int .i64 (-(n:Int))] (.sl false ((dg (val l/2^n)).map BK)):=by
 have hT:=λ q=>K1 N l q hD D'
 have d1:=HM (val l);have v1:=EH (val l);have l1:=IQ hD;have hz:=OP (val l);refine Ev.x N.NT rfl rfl ?_;by_cases h0:val l=0
 ·rw[h0,qj,I6]
  repeat' (first|(apply A7<;>intro hc<;>try omega)|apply BW|apply AQ|refine AU (hT _) ?_)<;>conv=>whnf
  exact B1 rfl (RD [])
 rw[<-v1];generalize dg (val l)=x at *;have AuL:n%32<32:=Qc _ D';have e1:(- -(n:Int))/32=((n/32:Nat):Int):=D'
 have e2:(- -(n:Int))%32=((n%32:Nat):Int):=D'
 by_cases AM6:32*x.length<n
 ·have n7:val x/2^n=0:=by
   refine Hc (cd (JD d1) ?_);rw[show 4294967296=2^32 from rfl,<-Ee];exact Uc D' D'
  rw[n7,I6];repeat' (first|(apply A7<;>intro hc<;>try omega)|(apply LN;omega)|apply BW|apply AQ|refine AU (hT _) ?_)<;>conv=>whnf
  exact B1 rfl (RD [])
 have hk:n/32<=x.length:=D'
 have hvd:=AsW d1 _ hk;repeat' (first|(apply A7<;>intro hc<;>try omega)|(apply LN;omega)|(refine VY ?_ ?_ (λ_ => ?_) (λ_ _ => ?_);omega;omega;all_goals try omega)|(apply FH.neg;omega)|apply BW|apply AQ|refine AU (hT _) ?_)<;>conv=>whnf
 rw[e1];refine LJ (λ i _=>x.length-i) (λ(i:Nat) (o:a_)=>n/32<=i/\i<=x.length/\o.length=i-n/32/\CM o/\val o+4294967296^(i-n/32)*(val (x.drop i)/2^(n%32))=val (x.drop (n/32))/2^(n%32)) (λ i o=>[(6,.int .i64 i),(5,.row 107005 0 1 0 o.length)]) (λ i o=>[(107005,107005,.rw 1 (o.map BK))]) (n/32) [] ⟨na _,hk,p_,jL,by simp [val]⟩ ?_;intro i o ⟨p0,p1,p2,p3,p5⟩ ih;by_cases hi:i<x.length
 ·obtain ⟨d,hd⟩:=X_ x i hi
  have ik:=d1.at hd;have g1:=M5 hd;have g2:=iK x (i+1);have g3:=AmV (e:=x.getD (i+1) 0) (V:=val (x.drop (i+1+1))) ik AuL;rw[<-g2,<-g1]at g3;have key : ∀ t,t=d+x.getD (i+1) 0*4294967296->val (o++[t/2^(n%32)%4294967296])+4294967296^(i+1-n/32)*(val (x.drop (i+1))/2^(n%32))=val (x.drop (n/32))/2^(n%32):=λ t ht=>by
   rw[WL,p2,show i+1-n/32=(i-n/32)+1 by omega,Hb,ht,Oh,Hd,<-fc,g3];exact p5
  by_cases hy:i+1<x.length
  ·obtain ⟨e,he⟩:=X_ x (i+1) hy
   have heb:=d1.at he;have qu:x[((i:Int)+1).toNat]? = some e:=by rw[show ((i:Int)+1).toNat=i+1 by omega];exact he
   rw[LQ he]at key;repeat' (first|(apply A7<;>intro hc<;>try omega)|(apply B5;omega)|(apply WP;omega)|(apply E2;omega)|apply BW|(refine CU G' ?_ rfl ?_;omega)|apply AQ)<;>conv=>whnf
   refine qA 32 (Lf _ _) D' D' ?_;conv=>whnf
   repeat' (first|(refine qE ?_ (λ_ _ _ => ?_) (λ_ _ _ _ => ?_);omega;all_goals try omega)|(apply E2;omega))<;>conv=>whnf
   rw[e2];refine YV (n:=n%32) (by show n%32<=64;omega) ?_;conv=>whnf
   repeat' (first|apply J7|apply HL)<;>conv=>whnf
   refine H9 (enc:=BK) ((d+e*4294967296)/2^(n%32)%4294967296) rfl rfl rfl D' D' ?_;conv=>whnf
   repeat' (first|(apply B5;omega)|fail)<;>conv=>whnf
   exact DB [(107005,107064)] (ih (i+1) (o++[(d+e*4294967296)/2^(n%32)%4294967296]) D' ⟨D',D',by simp;omega,p3.append (NF D'),key (d+e*4294967296) rfl⟩)
  ·rw[<-getD_none (show x.length<=i+1 by omega),Cf]at key
   repeat' (first|(apply A7<;>intro hc<;>try omega)|(apply B5;omega)|(refine qE ?_ (λ_ _ _ => ?_) (λ_ _ _ _ => ?_);omega;all_goals try omega)|(apply E2;omega)|apply BW|(refine CU G' ?_ rfl ?_;omega)|apply AQ)<;>conv=>whnf
   rw[e2];refine YV (n:=n%32) (by show n%32<=64;omega) ?_;conv=>whnf
   repeat' (first|apply J7|apply HL)<;>conv=>whnf
   refine H9 (enc:=BK) (d/2^(n%32)%4294967296) rfl rfl rfl D' D' ?_;conv=>whnf
   repeat' (first|(apply B5;omega)|fail)<;>conv=>whnf
   exact DB [(107005,107064)] (ih (i+1) (o++[d/2^(n%32)%4294967296]) D' ⟨D',D',by simp;omega,p3.append (NF D'),key d rfl⟩)
 ·obtain rfl:i=x.length:=D'
  clear ih;rw[Sb (na _),QG,qj,Oc,xc,hvd,Nat.div_div_eq_div_mul,<-Ark]at p5;have Pp:=λ q=>K1 N o q p3 D'
  rw[p5]at Pp;repeat' (first|(apply A7<;>intro hc<;>try omega)|apply BW|(refine G9 (λ_=>rfl) rfl ?_ ?_;(first|rfl|simp))|apply AQ|refine AU (Pp _) ?_)<;>conv=>whnf
  exact B1 rfl (RD _)
end Go.j4

namespace Go.j4
open F
attribute [local irreducible] AJ A5 BZ A0 FH B2 C6 C9 EO EC E0 HH D6 CT EJ E3 AM CZ BH pw EF DP FF FR F5 F7 E6 DQ GN
variable {L:Lib}
theorem Asg {V R y d t Q:Nat} (h:Q*y+R=V) (ht:t=R*4294967296+d):(t/y+4294967296*Q)*y+t%y=d+4294967296*V:=by
 have:=Ce t y
 rw[<-h,ph];have e:t/y*y=y*(t/y):=oc _ _;grind
theorem Aoo (N:a8 L) (x:a_) (Y:Nat) (q:Bool) (d1:CM x) (hx:x.length<=549755813888) (h0:Y≠0) (hY:Y<4294967296):Ev L 108 [.sl q (x.map BK),.int .u32 (Y:Int)] (.e9 [.sl false ((dg (val x/Y)).map BK),.int .u32 ((val x%Y:Nat):Int)]):=by
 refine Ev.x N.X6 rfl rfl ?_;repeat' (first|apply BW|apply AQ)<;>conv=>whnf
 refine I2 (enc:=BK) 0 x.length rfl D' D' ?_;conv=>whnf
 repeat' (first|(apply EP;omega)|apply BW)<;>conv=>whnf
 refine LK (λ n _ _=>n) (λ(n:Nat) (o:a_) (r:Nat)=>n<=x.length/\o.length=x.length/\CM o/\r<Y/\val (o.drop n)*Y+r=val (x.drop n)) (λ n o r=>[(7,.int .u64 (r:Int)),(8,.int .i64 ((n:Int)-1))]) (λ n o r=>[(11,11,.rw 1 (o.map BK))]) x.length (Wa x.length 0) 0 ⟨D',p_,QK _,D',by rw[Sb (na _),Sb p_];simp [val]⟩ ?_;intro n o r ⟨p1,p2,p3,p4,p5⟩ ih;rcases n with _|n
 ·rw[Wb,Wb]at p5
  have hq:val x/Y=val o/\val x%Y=r:=by
   rw[<-p5];have e1:(val o*Y+r)/Y=val o:=by
    rw[oc,pg D',Hc p4,xc]
   have e2:(val o*Y+r)%Y=r:=by
    rw[oc,vg,Cd p4]
   exact ⟨e1,e2⟩
  have hT:=λ q=>K1 N o q p3 D'
  rw[hq.1,hq.2,<-p2];clear ih hq p5;repeat' (first|(apply A7<;>intro hc<;>try omega)|(apply IA;omega)|(refine G9 (λ_=>rfl) rfl ?_ ?_;(first|rfl|simp))|apply AQ|refine AU (hT _) ?_)<;>conv=>whnf
  refine B1 rfl ?_;simp only[CI,ES,and_true,true_and];exact EW _
 ·have e1:((n+1:Nat):Int)-1=n:=D'
  rw[e1];obtain ⟨d,hd⟩:=X_ x n;have ik:=d1.at hd;have hR:r*4294967296+d<Y*4294967296:=D'
  have mr:(r*4294967296+d)/Y<4294967296:=(Ud D').2 D';repeat' (first|(apply A7<;>intro hc<;>try omega)|(apply CB;omega)|(apply WP;omega)|(apply YU;omega)|(apply qB;omega;omega)|(apply E2;omega)|(apply IA;omega)|(refine CU G' ?_ rfl ?_;omega)|apply AQ)<;>conv=>whnf
  obtain ⟨t,ht⟩ : ∃ t,t=r*4294967296+d:=⟨_,rfl⟩;rw[<-ht]at hR mr ⊢;have hm:t%Y<Y:=Qc _ D';have m4:=Asg p5 ht;rw[<-M5 hd]at m4;clear ht;skip
  refine JM D' ?_;conv=>whnf
  repeat' (first|(apply EP;omega)|(apply lJ;omega)|(apply E2;omega))<;>conv=>whnf
  generalize t/Y=tq at *;generalize t%Y=tr at *;refine EA [] w_ (ih n _ _ D' ⟨D',by simpa using p2,p3.set _ D',hm,?_⟩);rw[M5 (l:=o.set n tq) (d:=tq) (by rw[ye D']),Vc D'];exact m4
theorem qV (a b:a_) (e:Int):CI (.e9 [.sl false (a.map BK),.sl false (b.map BK),.int .i64 e]):=by
 simp only[CI,ES,and_true,true_and];exact ⟨EW a,EW b⟩
abbrev Al6:List It:=[It.lp HJ.l1,It.g8 0,
   It.code
    (((DE.ops HJ.Kp false).dr [0,75,79,80] []).seq
     (((DE.ops HJ.Kq false).dr [81,82,83,84,85] []).seq
      ((((DE.ops HJ.Kr false).dr [86,87,88,89,90] []).seq
         (DE.block 2 HJ.l2.loop)).seq
       (((DE.ops HJ.r57 true).dr [9,10,11,12,13,14,92,277,278,279,280,281,282,283,284]
          []).seq
        DE.ret))))]
abbrev rL:List It:=[It.lp HJ.l2,It.g8 2,It.code
       (((DE.ops HJ.r57 true).dr [9,10,11,12,13,14,92,277,278,279,280,281,282,283,284]
          []).seq
        DE.ret)]
abbrev rM (v:a_) (s ul m:Nat) (j:Int):Tm:=[(14,.int .i64 j),(13,.row 85 0 1 0 m),(12,.int .i64 v.length),(11,.sl false (v.map BK)),(10,.row 69 0 1 0 ul),(9,.int .i64 (s:Int))]
abbrev Al5:DE:=(((DE.ops HJ.r39 false).dr [18,19,20,166,205,206,207] []).seq
                (((DE.ops HJ.r40 false).dr [208,209,210,211,212,213,214] []).seq
                 ((DE.ops HJ.r41 false).seq
                  ((((DE.ops HJ.r42 false).dr [215,216] []).seq
                     (DE.cond 217
                      (((DE.ops HJ.r43 false).dr [18,217,218,219] []).seq
                       (DE.ops HJ.r44 false))
                      DE.skip)).seq
                   (((DE.ops HJ.r45 false).dr
                      [23,24,217,220,221,222,223,224,225,226,227,228] []).seq
                    ((((DE.ops HJ.r46 false).dr [18,229] []).seq
                       (DE.cond 230
                        (((DE.ops HJ.r47 false).dr [230,231,232] []).seq
                         ((DE.ops HJ.r48 false).seq
                          (((DE.ops HJ.r49 false).seq
                             (DE.block 8 HJ.l5.loop)).seq
                           ((DE.ops HJ.r55 false).dr
                            [25,26,235,262,263,264,265,266,267,268,269,270,271]
                            []))))
                        DE.skip)).seq
                     ((DE.ops HJ.r56 false).dr [16,230,272,273,274,275,276]
                      [])))))))
abbrev Al7:List It:=It.lp HJ.l4::It.g8 6::It.code Al5::It.g8 3::It.code ((DE.ops HJ.Gu false).dr [93,94] [])::rL
section
variable {A W C w y:a_} {j m s ul q:Nat} {Q:Tm->Mem->Prop}
theorem iN {e i n:Nat} (hi:i=A.length+n) (he:W[n]? = some e):(A++W++C)[i]? = some e:=by
 rw[AhO hi (zS he).1];exact he
theorem xO (hA:A.length=j) (hW:W.length=y.length+1) (D2:CM W) (mo:CM y) (om:2<=y.length) (Eo:y.length<=549755813888) (gi:0<val y) (jy:j<=1099511627776)
  (yh:ul=j+(y.length+1)+C.length) (Wr:w.length=m) (We:j<m)
  (r1:q<4294967296) (r2:val W/val y<=q) (r3:q<=val W/val y+1)
  (hk : ∀ (W':a_) (q':Nat),W'.length=y.length+1->CM W'->val W'=val W%val y->q'=val W/val y->AJ L rL (rM y s ul m ((j:Int)-1)) [(69,101021,.rw 1 ((A++W'++C).map BK)),(85,85,.rw 1 ((w.set j q').map BK))] Q) :
  AJ L Al7 ([(20,.int .i64 0),(19,.int .u64 0),(18,.int .u64 0),(16,.int .u64 (q:Int))]++rM y s ul m (j:Int)) [(69,101021,.rw 1 ((A++W++C).map BK)),(85,85,.rw 1 (w.map BK))] Q:=by
 refine pI (λ i _ _ _=>y.length-i) (λ(i:Nat) (Z:a_) (c b:Nat)=>i<=y.length/\Z.length=y.length+1/\CM Z/\c<4294967296/\b<=1/\Z.drop i=W.drop i/\val (Z.take i)+q*val (y.take i)=val (W.take i)+4294967296^i*(c+b)) (λ i Z c b=>[(20,.int .i64 i),(18,.int .u64 (b:Int)),(19,.int .u64 (c:Int))]) (λ i Z c b=>[(69,101021,.rw 1 ((A++Z++C).map BK))]) [] [] 0 W 0 0 w_ ⟨D',hW,D2,D',D',rfl,by simp [val]⟩ ?_;intro i Z c b ⟨p1,p2,p3,p4,p5,p6,p7⟩ ih;by_cases hi:i<y.length
 ·obtain ⟨d,hd⟩:=X_ y i hi
  obtain ⟨u,hu⟩:=X_ Z i;have ik:=mo.at hd;have zs:=p3.at hu;have Wk:(A++Z++C)[((i:Int)+(j:Int)).toNat]? = some u:=iN D' hu;obtain ⟨pr,Cq⟩ : ∃ pr,pr=c+q*d:=⟨_,rfl⟩;obtain ⟨m1,m2,m3⟩:=Afw r1 ik p4 (show pr=q*d+c by omega);have Hk:W[i]? = some u:=by
   have e1:(Z.drop i)[0]? = (W.drop i)[0]? := by rw[p6]
   simpa [hu] using e1.symm
  have Ad : ∀ w,(Z.set i w).drop (i+1)=W.drop (i+1):=λ w=>by
   rw[Vc D'];have e1:(Z.drop i).drop 1=(W.drop i).drop 1:=by rw[p6]
   simpa using e1
  have m4 : ∀ have' take w jb,take=pr%4294967296+b->((have'=u/\jb=0/\take<=u)\/(have'=u+4294967296/\jb=1/\u<take))->w+take=have'->val ((Z.set i w).take (i+1))+q*val (y.take (i+1))=val (W.take (i+1))+4294967296^(i+1)*(pr/4294967296+jb):=λ have' take w jb a1 a2 a3=>by
   rw[KW D',HS hd,HS Hk,Hb];exact AqM p7 Cq a1 a2 a3
  by_cases n7:u<pr%4294967296+b
  ·have h3:=m4 (u+4294967296) (pr%4294967296+b) (u+4294967296-(pr%4294967296+b)) 1 rfl (Or.inr ⟨rfl,rfl,n7⟩) D'
   repeat' (first|(apply A7<;>intro hc<;>try omega)|(apply CB;omega)|(apply B5;omega)|(apply KY;omega)|(apply YT;omega)|(apply Ab0;omega)|(apply QI;omega;omega)|apply JU|(apply pZ;omega)|(apply E2;omega)|(apply IA;omega)|(refine CU G' ?_ rfl ?_;omega)|refine RA G' ?_|apply AQ)<;>conv=>whnf
   rw[<-Cq];skip
   refine WQ i D' D' ?_;conv=>whnf
   repeat' (first|(apply B5;omega)|fail)<;>conv=>whnf
   exact EA [] w_ (ih (i+1) (Z.set i (u+4294967296-(pr%4294967296+b))) (pr/4294967296) 1 D' ⟨D',by simpa using p2,p3.set _ D',m1,D',Ad _,h3⟩)
  ·have h3:=m4 u (pr%4294967296+b) (u-(pr%4294967296+b)) 0 rfl (Or.inl ⟨rfl,rfl,D'⟩) D'
   repeat' (first|(apply A7<;>intro hc<;>try omega)|(apply CB;omega)|(apply B5;omega)|(apply KY;omega)|(apply YT;omega)|(apply Ab0;omega)|(apply QI;omega;omega)|apply JU|(apply E2;omega)|(apply IA;omega)|(refine CU G' ?_ rfl ?_;omega)|refine RA G' ?_|apply AQ)<;>conv=>whnf
   rw[<-Cq];skip
   refine WQ i D' D' ?_;conv=>whnf
   repeat' (first|(apply B5;omega)|fail)<;>conv=>whnf
   exact EA [] w_ (ih (i+1) (Z.set i (u-(pr%4294967296+b))) (pr/4294967296) 0 D' ⟨D',by simpa using p2,p3.set _ D',m1,D',Ad _,h3⟩)
 ·obtain rfl:i=y.length:=D'
  clear ih;obtain ⟨u,hu⟩:=X_ Z y.length;have zs:=p3.at hu;have Wk:(A++Z++C)[((j:Int)+(y.length:Int)).toNat]? = some u:=iN D' hu;have Hk:W[y.length]? = some u:=by
   have e1:(Z.drop y.length)[0]? = (W.drop y.length)[0]? := by rw[p6]
   simpa [hu] using e1.symm
  rw[GH (na y.length)]at p7;have eW:val W=val (W.take y.length)+4294967296^y.length*u:=by
   rw[<-HS Hk,GH D']
  have m4 : ∀ have' take w jb,take=c+b->((have'=u/\jb=0/\take<=u)\/(have'=u+4294967296/\jb=1/\u<take))->w+take=have'->val (Z.set y.length w)+q*val y=val W+4294967296^y.length*4294967296*jb:=λ have' take w jb a1 a2 a3=>by
   have h1:=AqK p7 a1 a2 a3;rw[<-eW,<-KW (show y.length<Z.length by omega),GH W_]at h1;exact h1
  by_cases n7:u<c+b
  ·have h3:=m4 (u+4294967296) (c+b) (u+4294967296-(c+b)) 1 rfl (Or.inr ⟨rfl,rfl,n7⟩) D'
   have Sa:CM (Z.set y.length (u+4294967296-(c+b))):=p3.set _ D';have Fw:(Z.set y.length (u+4294967296-(c+b))).length=y.length+1:=by simpa using p2
   rw[Ui]at h3;have Pq:=JD Sa;rw[Fw,Hb]at Pq;obtain ⟨y1,y2,y3⟩:=Ac8 gi r3 Pq h3;repeat' (first|(apply A7<;>intro hc<;>try omega)|(apply CB;omega)|(apply B5;omega)|(apply KY;omega)|(apply QI;omega;omega)|(apply pZ;omega)|(apply E2;omega)|(apply IA;omega)|refine RA G' ?_|apply AQ)<;>conv=>whnf
   refine WQ y.length D' D' ?_;conv=>whnf
   repeat' (first|(apply A7<;>intro hc<;>try omega)|(apply QI;omega;omega))<;>conv=>whnf
   clear p7 p6 eW hu Hk zs Wk p2 p3 m4;generalize Z.set y.length (u+4294967296-(c+b))=X at *;have hRV:val W%val y<val y:=Qc _ gi;have Lo:=JD mo;obtain ⟨xw,ka⟩:=X_ X y.length;have eX:val X=val (X.take y.length)+4294967296^y.length*xw:=by
    rw[<-HS ka,GH D']
   have Af:q-1<4294967296:=D'
   refine LK (λ i _ _=>y.length-i) (λ(i:Nat) (Z:a_) (c:Nat)=>i<=y.length/\Z.length=y.length+1/\CM Z/\c<=1/\Z.drop i=X.drop i/\val (Z.take i)+4294967296^i*c=val (X.take i)+val (y.take i)) (λ i Z c=>[(26,.int .i64 i),(25,.int .u64 (c:Int))]) (λ i Z c=>[(69,101021,.rw 1 ((A++Z++C).map BK))]) 0 X 0 ⟨D',Fw,Sa,D',rfl,by simp [val]⟩ ?_;intro i Z c ⟨p1,p2,p3,p4,p6,p7⟩ ih;by_cases hi:i<y.length
   ·obtain ⟨d,hd⟩:=X_ y i hi
    obtain ⟨u,hu⟩:=X_ Z i;have ik:=mo.at hd;have zs:=p3.at hu;have Wk:(A++Z++C)[((i:Int)+(j:Int)).toNat]? = some u:=iN D' hu;have wo:X[i]? = some u:=by
     have e1:(Z.drop i)[0]? = (X.drop i)[0]? := by rw[p6]
     simpa [hu] using e1.symm
    have tz:=Acg (d:=d) (w:=u) (t:=c+(u+d)) p7 D';repeat' (first|(apply A7<;>intro hc<;>try omega)|(apply CB;omega)|(apply B5;omega)|(apply KY;omega)|(apply E2;omega)|apply J7|(refine CU G' ?_ rfl ?_;omega)|refine RA G' ?_|apply AQ)<;>conv=>whnf
    generalize ht2:c+(u+d)=t2 at *;refine WQ i D' D' ?_;conv=>whnf
    repeat' (first|(apply B5;omega)|apply JU)<;>conv=>whnf
    refine EA [] w_ (ih (i+1) (Z.set i (t2%4294967296)) (t2/4294967296) D' ⟨D',by simpa using p2,p3.set _ D',D',?_,?_⟩)
    ·rw[Vc D']
     have e1:(Z.drop i).drop 1=(X.drop i).drop 1:=by rw[p6]
     simpa using e1
    ·rw[KW D',HS hd,HS wo,Hb]
     exact tz
   ·obtain rfl:i=y.length:=D'
    clear ih;obtain ⟨u,hu⟩:=X_ Z y.length;have zs:=p3.at hu;have Wk:(A++Z++C)[((j:Int)+(y.length:Int)).toNat]? = some u:=iN D' hu;have wo:X[y.length]? = some u:=by
     have e1:(Z.drop y.length)[0]? = (X.drop y.length)[0]? := by rw[p6]
     simpa [hu] using e1.symm
    rw[wo]at ka;obtain rfl:u=xw:=by simpa using ka
    rw[GH (na y.length)]at p7;have Sc:=JD (p3.take y.length);rw[yc,Ve D']at Sc;rw[eX]at y3;have ix:=Acf p7 y3 D' Sc;rw[<-KW (show y.length<Z.length by omega),GH W_]at ix;repeat' (first|(apply A7<;>intro hc<;>try omega)|(apply CB;omega)|(apply B5;omega)|apply AbZ|(apply IA;omega)|refine RA G' ?_|apply AQ)<;>conv=>whnf
    refine WQ y.length D' D' ?_;conv=>whnf
    repeat' (first|(apply CB;omega)|(apply IA;omega))<;>conv=>whnf
    refine JM D' ?_;conv=>whnf
    repeat' (first|(apply EP;omega)|fail)<;>conv=>whnf
    exact EA [] w_ (hk _ _ (by simpa using p2) (p3.set _ D') ix y1)
  ·have h3:=m4 u (c+b) (u-(c+b)) 0 rfl (Or.inl ⟨rfl,rfl,D'⟩) D'
   rw[Oc,xc]at h3;obtain ⟨y1,y2⟩:=Ac9 gi r2 h3;repeat' (first|(apply A7<;>intro hc<;>try omega)|(apply CB;omega)|(apply B5;omega)|(apply KY;omega)|(apply QI;omega;omega)|(apply E2;omega)|(apply IA;omega)|refine RA G' ?_|apply AQ)<;>conv=>whnf
   refine WQ y.length D' D' ?_;conv=>whnf
   repeat' (first|(apply A7<;>intro hc<;>try omega)|(apply CB;omega)|(apply IA;omega))<;>conv=>whnf
   refine JM D' ?_;conv=>whnf
   repeat' (first|(apply EP;omega)|fail)<;>conv=>whnf
   exact EA [] w_ (hk _ _ (by simpa using p2) (p3.set _ D') y2 y1)
theorem Al8 (hA:A.length=j) (hW:W.length=y.length+1) (D2:CM W) (mo:CM y) (om:2<=y.length) (Eo:y.length<=549755813888) (gi:0<val y) (jy:j<=1099511627776)
  (n2:4294967296^(y.length-1)*2147483648<=val y) (g2:val W<4294967296*val y) (yh:ul=j+(y.length+1)+C.length) (Wr:w.length=m) (We:j<m)
  (hk : ∀ (W':a_) (q':Nat),W'.length=y.length+1->CM W'->val W'=val W%val y->q'=val W/val y->AJ L rL (rM y s ul m ((j:Int)-1)) [(69,101021,.rw 1 ((A++W'++C).map BK)),(85,85,.rw 1 ((w.set j q').map BK))] Q) :
  AJ L (.code HJ.l2::rL) (rM y s ul m (j:Int)) [(69,101021,.rw 1 ((A++W++C).map BK)),(85,85,.rw 1 (w.map BK))] Q:=by
 obtain ⟨UL,a1,a2⟩:=vA D2 (n:=y.length+1) D' D';obtain ⟨VL,b5,b6⟩:=Ahn mo (n:=y.length) om D';obtain ⟨u0,w0⟩:=X_ W y.length;obtain ⟨u1,w1⟩:=X_ W (y.length-1);obtain ⟨u2,w2⟩:=X_ W (y.length-2);obtain ⟨f1,x1⟩:=X_ y (y.length-1);obtain ⟨f2,x2⟩:=X_ y (y.length-2);rw[show y.length+1-3=y.length-2 by omega,show y.length+1-2=y.length-1 by omega,show y.length+1-1=y.length by omega,LQ w0,LQ w1,LQ w2]at a2;rw[show y.length+1-3=y.length-2 by omega]at a1;rw[LQ x1,LQ x2]at b6;have Dn:=Ahf mo (k:=y.length-1) D' n2 x1;have k0:=D2.at w0;have k1:=D2.at w1;have k2:=D2.at w2;have k3:=mo.at x1;have k4:=mo.at x2;have z1:y[((y.length:Int)-1).toNat]? = some f1:=by rw[show ((y.length:Int)-1).toNat=y.length-1 by omega];exact x1
 have z2:y[((y.length:Int)-2).toNat]? = some f2:=by rw[show ((y.length:Int)-2).toNat=y.length-2 by omega];exact x2
 have z7:(A++W++C)[((j:Int)+(y.length:Int)).toNat]? = some u0:=iN D' w0;repeat' (first|(apply A7<;>intro hc<;>try omega)|(apply CB;omega)|(apply B5;omega)|(apply EP;omega)|(apply WP;omega)|(apply E2;omega)|refine RA G' ?_|apply AQ)<;>conv=>whnf
 have du:(A++W++C)[((j:Int)+(y.length:Int)-1).toNat]? = some u1:=iN D' w1;refine Ai4 du ?_;conv=>whnf
 refine AbU D' ?_;conv=>whnf
 refine YU D' ?_;conv=>whnf
 clear z7 du;have il:(A++W++C)[((j:Int)+(y.length:Int)-2).toNat]? = some u2:=iN D' w2;generalize Au3:u0*4294967296+u1=top at *;have Gg:top<=18446744073709551615:=D'
 have hU:val W=UL+4294967296^(y.length-2)*(u2+4294967296*top):=by rw[a2,show u1+4294967296*u0=top by omega]
 repeat' (first|(apply EP;omega)|(apply lJ;omega)|(apply qB;omega;omega)|(apply E2;omega)|(refine CU G' ?_ rfl ?_;omega))<;>conv=>whnf
 refine pH (λ q _=>q) (λ(q r:Nat)=>Gs (val W) (val y) f1 f2 u2 top q r) (λ q r=>[(16,.int .u64 (q:Int)),(17,.int .u64 (r:Int))]) (λ_ _=>[]) [] [] (top/f1) (top%f1) w_ (Gs.start hU b6 a1 k2 gi D' k3) ?_;intro q r g zw;have hqt:q<=top:=by
  have h3:=g.hq;have h4:q*1<=q*f1:=zc q D';omega
 have hr:=g.hr;have vi:=g.ge;by_cases hb:4294967296<=q
 ·obtain ⟨y1,y2,y3⟩:=g.next hU b6 a1 gi g2 (Or.inl hb)
  repeat' (first|(apply A7<;>intro hc<;>try omega)|(apply EP;omega)|(apply KY;omega)|(apply QI;omega;omega)|(apply E2;omega)|(refine CU G' ?_ rfl ?_;omega)|apply AQ)<;>conv=>whnf
  ·obtain ⟨t1,t2⟩:=jW hU b6 b5 Dn k4 g2 y2 (Or.inr D')
   exact EA [] w_ (xO (w:=w) (C:=C) hA hW D2 mo om Eo gi jy yh Wr We t1 y3 t2 hk)
  ·exact EA [] w_ (zw (q-1) (r+f1) D' ⟨y2,D',y3⟩)
 ·have hmq:=kE (show q<4294967296 by omega) k4
  by_cases ag:r*4294967296+u2<q*f2
  ·obtain ⟨y1,y2,y3⟩:=g.next hU b6 a1 gi g2 (Or.inr ag)
   repeat' (first|(apply A7<;>intro hc<;>try omega)|(apply CB;omega)|(apply B5;omega)|(apply EP;omega)|(apply KY;omega)|(apply YT;omega)|(apply WP;omega)|(apply YU;omega)|(apply QI;omega;omega)|(apply E2;omega)|(refine CU G' ?_ rfl ?_;omega)|refine RA G' ?_|apply AQ)<;>conv=>whnf
   ·obtain ⟨t1,t2⟩:=jW hU b6 b5 Dn k4 g2 y2 (Or.inr D')
    exact EA [] w_ (xO (w:=w) (C:=C) hA hW D2 mo om Eo gi jy yh Wr We t1 y3 t2 hk)
   ·exact EA [] w_ (zw (q-1) (r+f1) D' ⟨y2,D',y3⟩)
  ·obtain ⟨t1,t2⟩:=jW hU b6 b5 Dn k4 g2 g.hq (Or.inl ⟨D',D'⟩)
   repeat' (first|(apply A7<;>intro hc<;>try omega)|(apply CB;omega)|(apply B5;omega)|(apply EP;omega)|(apply YT;omega)|(apply WP;omega)|(apply YU;omega)|(apply E2;omega)|(refine CU G' ?_ rfl ?_;omega)|refine RA G' ?_|apply AQ)<;>conv=>whnf
   exact EA [] w_ (xO (w:=w) (C:=C) hA hW D2 mo om Eo gi jy yh Wr We t1 vi t2 hk)
end
theorem AsX {l:a_} (hD:CM l) (h:l[l.length-1]? = some 0):val l<4294967296^(l.length-1):=by
 have hl:=(zS h).1;have h1:=RT l (l.length-1) D';have h2:=M5 h;rw[Sb (show l.length<=l.length-1+1 by omega),QG]at h2;rw[h2]at h1;simp only[Oc,xc]at h1;have h3:=JD (hD.take (l.length-1));rw[yc,Ve D']at h3;omega
theorem Adc (N:a8 L) {X Y s:Nat} {x u y:a_} (hY:Y≠0) (js:s<=31) (Vs:CM u) (Vu:val u=X*2^s) (hU0:u[u.length-1]? = some 0) (yh:x.length+1<=u.length/\u.length<=549755813888) (mo:CM y) (Vv:val y=Y*2^s) (qm:2<=y.length/\y.length<=x.length) (n2:4294967296^(y.length-1)*2147483648<=val y) :
  AJ L Al6 [(10,.row 69 0 1 0 u.length),(11,.sl false (y.map BK)),(9,.int .i64 (s:Int)),(0,.sl false (x.map BK))] [(69,101021,.rw 1 (u.map BK))] (aA HJ (.e9 [.sl false ((dg (X/Y)).map BK),.sl false ((dg (X%Y)).map BK),.int .i64 0])):=by
 refine FP (λ(_:Nat)=>0) (λ_=>True) (λ_=>[]) (λ_=>[]) 0 trivial ?_;intro _ _ _;repeat' (first|(apply A7<;>intro hc<;>try omega)|(apply B5;omega)|(apply EP;omega)|apply BW|apply AQ)<;>conv=>whnf
 refine I2 (enc:=BK) 0 (u.length-y.length) (by rfl) D' D' ?_;conv=>whnf
 repeat' (first|(apply EP;omega)|fail)<;>conv=>whnf
 have gi:0<val y:=by
  have:=Af3 (y.length-1)
  omega
 have Lp:=JD mo;generalize hm:u.length-y.length=m at *;have Bm:val (u.drop m)<val y:=by
  have h1:(u.drop m).length=y.length:=by simp;omega
  have h2:=AsX (l:=u.drop m) (Vs.drop _) (by rw[h1,Sg,show m+(y.length-1)=u.length-1 by omega];exact hU0);rw[h1]at h2;omega
 rw[show (u.length:Int)-y.length-1=((m:Nat):Int)-1 by omega];refine LK (λ n _ _=>n) (λ(n:Nat) (o w:a_)=>n<=m/\o.length=u.length/\CM o/\w.length=m/\CM w/\val (o.drop n)<val y/\X*2^s=val (o.take n)+4294967296^n*(val (w.drop n)*val y+val (o.drop n))) (λ n o w=>[(14,.int .i64 ((n:Int)-1))]) (λ n o w=>[(69,101021,.rw 1 (o.map BK)),(85,85,.rw 1 (w.map BK))]) m u (Wa m 0) ⟨D',rfl,Vs,p_,QK _,Bm,by rw[<-Vu,Sb (show (Wa m 0).length<=m by simp),QG,Cf,oe];exact RT u m D'⟩ ?_;intro n o w ⟨p1,p2,p3,p4,p5,p6,p7⟩ ih;rcases n with _|j
 ·clear ih
  rw[Wb]at p6;rw[vj,Wb,Wb,QG,oe,Lg,Tf]at p7;have Ad:val o=val (o.take y.length):=by
   have h1:=iL o y.length;rcases Vd (val (o.drop y.length)) with h2|h2
   ·rw[h2,Oc,xc]at h1;exact h1
   ·have h3:4294967296^y.length*1<=4294967296^y.length*val (o.drop y.length):=zc _ h2
    omega
  have Fv:X/Y=val w/\X%Y=val o/2^s:=by
   obtain ⟨z1,z2⟩:=Adb (X:=X) (Y:=Y) (Nc s);rw[<-z1,<-z2,<-Vv,p7];have e1:(val w*val y+val o)/val y=val w:=by
    rw[oc,pg gi,Hc p6,xc]
   have e2:(val w*val y+val o)%val y=val o:=by
    rw[oc,vg,Cd p6]
   rw[e1,e2];exact ⟨rfl,rfl⟩
  rw[Fv.1,Fv.2,Ad];have hT:=λ q=>K1 N w q p5 D'
  have gp:(o.take y.length).length<=549755813888:=by rw[yc];omega
  clear p7 Fv Bm;rw[<-p4];rcases Vd s with h0|h0
  ·subst h0
   have hS:=λ q=>Ad5 N (o.take y.length) q 0 (p3.take _) gp D'
   rw[Lg,Ui]at hS;rw[Lg,Nat.div_one];repeat' (first|(apply A7<;>intro hc<;>try omega)|(refine G9 (λ_=>rfl) rfl ?_ ?_;(first|rfl|simp))|apply AQ|refine AU (hT _) ?_)<;>conv=>whnf
   refine M7 y.length rfl D' ?_;conv=>whnf
   refine FH.neg D' ?_;conv=>whnf
   refine NK (enc:=BK) (λ_=>rfl) D' ?_;conv=>whnf
   rw[Wb,Ke,show -((0:Nat):Int)=((0:Nat):Int) by omega];(repeat' (refine AU (hS _) ?_<;>conv=>whnf))
   exact B1 rfl (qV _ _ _)
  ·have hS:=λ q=>Aon N (o.take y.length) q s (p3.take _) gp D'
   repeat' (first|(apply A7<;>intro hc<;>try omega)|(refine G9 (λ_=>rfl) rfl ?_ ?_;(first|rfl|simp))|apply AQ|refine AU (hT _) ?_)<;>conv=>whnf
   refine M7 y.length rfl D' ?_;conv=>whnf
   refine FH.neg D' ?_;conv=>whnf
   refine NK (enc:=BK) (λ_=>rfl) D' ?_;conv=>whnf
   rw[Wb,Ke];(repeat' (refine AU (hS _) ?_<;>conv=>whnf))
   exact B1 rfl (qV _ _ _)
 ·have e3:((j+1:Nat):Int)-1=j:=D'
  rw[e3];obtain ⟨A,W,C,hA,hW,rfl⟩:=Adv o j (y.length+1) D';obtain ⟨g1,g2,g3⟩:=Adx hA hW p3 p6 Lp;obtain ⟨D1,D2,D3⟩:=Ac7 p3;have Af:val W/val y<4294967296:=(Ud gi).2 g2;have hWV:val W=val W/val y*val y+val W%val y:=by rw[oc];exact (Ce _ _).symm
  have Lq:val W%val y<val y:=Qc _ gi;have Ln:X*2^s=val A+4294967296^j*val W+4294967296^j*4294967296*(val (w.drop (j+1))*val y):=by
   rw[p7,fc,<-g3,Hb];omega
  have Bf:=Adw Ln hWV;have vt : ∀ q',q'=val W/val y->val ((w.set j q').drop j)=val W/val y+4294967296*val (w.drop (j+1)):=λ q' h=>by
   rw[M5 (l:=w.set j q') (d:=q') (by rw[ye D']),Vc D',h]
  have hlen : ∀ W':a_,W'.length=y.length+1->(A++W'++C).length=u.length:=λ W' h=>by
   rw[<-p2];simp [h,hW]
  have hl3:u.length=j+(y.length+1)+C.length:=by rw[<-p2];simp [hA,hW];omega
  refine EA [] w_ (Al8 (m:=m) (s:=s) (ul:=u.length) (C:=C) hA hW D2 mo qm.1 D' gi D' n2 g2 hl3 p4 D' (λ W' q' z1 z2 z3 z4 => ?_));obtain ⟨t1,t2⟩:=xY (A:=A) (W:=W') (C:=C) (j:=j) hA g1;refine EA [] w_ (ih j (A++W'++C) (w.set j q') D' ⟨D',hlen W' z1,(D1.append z2).append D3,by simpa using p4,p5.set _ D',D',?_⟩);rw[t1,t2,vt q' z4,z3];exact Bf
end Go.j4

namespace Go.j4
open F
attribute [local irreducible] AJ A5 BZ A0 FH B2 C6 C9 EO EC E0 HH D6 CT EJ E3 AM CZ BH pw EF DP FF FR F5 F7 E6 DQ GN
variable {L:Lib}
theorem Ad4 (N:a8 L) (a b:a_) (q1 q2:Bool) (hA:CM a) (hB:CM b) (la:a.length<=274877906944) (lb:b.length<=274877906944) (h0:val b≠0) :
  Ev L 109 [.sl q1 (a.map BK),.sl q2 (b.map BK)] (.e9 [.sl false ((dg (val a/val b)).map BK),.sl false ((dg (val a%val b)).map BK),.int .i64 0]):=by
 have t1:=λ q=>K1 N a q hA D'
 have t2:=λ q=>K1 N b q hB D'
 have l1:=IQ hA;have l2:=IQ hB;have n0:=λ q q'=>yR N (dg (val a)) (dg (val b)) q q' (HM _) (HM _) D' D'
 rw[EH,EH]at n0;generalize val a=X at *;generalize val b=Y at *;have d1:=HM X;have d2:=HM Y;have v1:=EH X;have v2:=EH Y;have hy1:=mI h0;refine Ev.x N.HJ rfl rfl ?_;by_cases h1:(dg Y).length=1
 ·obtain ⟨y0,Ap⟩ : ∃ y0,dg Y=[y0]:=Lh.1 h1
  have Gi:Y=y0:=by rw[<-v2,Ap];simp [val]
  subst Gi;have Es:Y<4294967296:=d2 Y (by rw[Ap];simp);have hyg:(dg Y)[(0:Int).toNat]? = some Y:=by rw[Ap];rfl
  have Qk:=λ q=>Aoo N (dg X) Y q d1 D' h0 Es
  rw[v1]at Qk;have ri:X%Y<4294967296:=oj (Qc _ D') Es;have Vr:=λ q=>K1 N [X%Y] q (NF ri) p_
  rw[show val [X%Y]=X%Y by simp [val]]at Vr;clear Ap v2;generalize dg Y=y at *;repeat' (first|(apply A7<;>intro hc<;>try omega)|apply BW|(refine CU G' ?_ rfl ?_;omega)|refine OA rfl ?_|apply AQ|refine AU (t1 _) ?_|refine AU (t2 _) ?_|refine AU (Qk _) ?_|refine AU (Vr _) ?_)<;>conv=>whnf
  exact B1 rfl (qV _ _ _)
 by_cases n7:X<Y
 ·rw[<-OM D']at n0
  repeat' (first|(apply A7<;>intro hc<;>try omega)|apply BW|apply AQ|refine AU (t1 _) ?_|refine AU (t2 _) ?_|refine AU (n0 _ _) ?_)<;>conv=>whnf
  refine B1 ?_ (qV _ _ _);rw[Hc n7,Cd n7,I6];rfl
 have vi:=qY (show Y<=X by omega);generalize GE X Y=cm at *;have vk:2<=(dg Y).length:=D'
 obtain ⟨yt,Iq,Ir⟩:=xL h0;have Eu:=d2.at Iq;obtain ⟨b1,b2,b3,b4⟩:=Zd Ir Eu;have ue:=λ q=>Aok N yt q Ir Eu
 generalize hs:32-u7 yt=s at *;have js:s<=31:=D'
 have hsv:=λ q=>Ad5 N (dg Y) q s d2 D' D'
 obtain ⟨n1,n2⟩:=Yv d2 Iq D' js b3 b4;rw[v2]at hsv n1 n2;have Ad:(dg Y).drop ((dg Y).length-1)=[yt]:=by
  obtain ⟨hi,he⟩:=zS Iq;rw[Ic hi,he,Sb D']
 have qm:(dg (Y*2^s)).length=(dg Y).length:=by
  have a1:=WZ.2 n1;have a2 : ¬ (dg (Y*2^s)).length<=(dg Y).length-1:=λ h=>by
   have:=WZ.1 h
   omega
  omega
 have AM0:(dg (X*2^s)).length<=(dg X).length+1:=by
  refine WZ.2 ?_;have a1:X<4294967296^(dg X).length:=WZ.1 (na _);rw[Hb];have a2:=nU (s:=s) D';exact cd (vf a1 (Nc s)) (zc _ a2)
 have Fw:(dg X).length<=(dg (X*2^s)).length:=aK (Nat.le_mul_of_pos_right _ (Nc s));have Dv:=aK (show Y<=X by omega);generalize hx:dg X=x at *;generalize hy:dg Y=y at *;have t3:=λ q=>K1 N x q d1 D'
 rw[v1,hx]at t3;repeat' (first|(apply A7<;>intro hc<;>try omega)|(apply EP;omega)|apply BW|apply AQ|refine AU (t1 _) ?_|refine AU (t2 _) ?_|refine AU (n0 _ _) ?_)<;>conv=>whnf
 rw[show (y.length:Int)-1=((y.length-1:Nat):Int) by omega];refine AjR (k:=y.length-1) (λ_=>rfl) D' ?_;conv=>whnf
 rw[Ad];repeat' (first|(apply EP;omega)|refine AU (ue _) ?_)<;>conv=>whnf
 rw[show (32:Int)-(u7 yt:Nat)=((s:Nat):Int) by omega];refine K5 1000 N.NT rfl rfl ?_;have Cu:(s:Int)/32=((0:Nat):Int):=D'
 have hsr:(s:Int)%32=((s:Nat):Int):=D'
 repeat' (first|(apply A7<;>intro hc<;>try omega)|(refine VY ?_ ?_ (λ_ => ?_) (λ_ _ => ?_);omega;omega;all_goals try omega)|apply BW|apply AQ|refine AU (t3 _) ?_)<;>conv=>whnf
 rw[Cu];refine I2 (enc:=BK) 0 0 rfl rfl D' ?_;conv=>whnf
 skip
 refine LK (λ i _ _=>x.length-i) (λ(i:Nat) (o:a_) (c:Nat)=>i<=x.length/\o.length=i/\CM o/\c<2^s/\val o+4294967296^i*c=val (x.take i)*2^s) (λ i o c=>[(10,.int .i64 i),(9,.int .u64 (c:Int)),(8,.row 107069 0 1 0 i)]) (λ i o c=>[(107069,107069,.rw 1 (o.map BK))]) 0 [] 0 ⟨D',rfl,jL,Nc _,by simp [val]⟩ ?_;intro i o c ⟨p1,p2,p3,p4,p5⟩ ih;have Cr:=nU (s:=s) D';by_cases hi:i<x.length
 ·obtain ⟨d,hd⟩:=X_ x i hi
  have ik:=d1.at hd;obtain ⟨f1,f2,f3,f4⟩:=gZ (s:=s) ik D';have hr:=sT (show s<=64 by omega) f4;repeat' (first|(apply A7<;>intro hc<;>try omega)|(refine qE ?_ (λ_ _ _ => ?_) (λ_ _ _ _ => ?_);omega;all_goals try omega)|(apply E2;omega)|apply BW|(refine CU G' ?_ rfl ?_;omega)|apply AQ)<;>conv=>whnf
  rw[hsr];refine YW D' f4 ?_;conv=>whnf
  skip
  refine qA s (Lf _ _) p4 D' ?_;conv=>whnf
  have m4:=Ahj (d:=d) (P:=1) (V:=val o) (p:=4294967296^i) (lo:=c) (X:=val (x.take i)) (s:=s) (by rw[Tf,Tf];exact p5) rfl;have uf:(c+d*2^s)/4294967296<2^s:=by
   rw[Ud D'];have:=zR (2^s) (show d<=4294967295 by omega)
   omega
  generalize c+d*2^s=t at *;repeat' (first|apply J7|apply HL)<;>conv=>whnf
  refine H9 (enc:=BK) (t%4294967296) rfl p2.symm rfl D' D' ?_;conv=>whnf
  repeat' (first|(apply B5;omega)|apply JU)<;>conv=>whnf
  rw[show (o++[t%4294967296]).length=i+1 by simp [p2]];refine EA [(107069,107091)] w_ (ih (i+1) (o++[t%4294967296]) (t/4294967296) D' ⟨D',by simp;omega,p3.append (NF D'),uf,?_⟩);rw[WL,p2,HS hd,Hb];rw[Tf,Tf]at m4;exact m4
 obtain rfl:i=x.length:=D'
 clear ih;have Co:c<4294967296:=D'
 have hOD:CM (o++[c]):=p3.append (NF Co);have Jf:val (o++[c])=X*2^s:=by
  rw[WL,p2,p5,GH (na _),v1]
 have Rq:(o++[c]).length=x.length+1:=by simp [p2]
 repeat' (first|(apply A7<;>intro hc<;>try omega)|(apply IA;omega)|apply BW|apply HL|apply AQ)<;>conv=>whnf
 refine H9 (enc:=BK) c rfl p2.symm rfl D' D' ?_;conv=>whnf
 rw[Rq];generalize o++[c]=O at *;rw[<-Rq];clear p3 p4 p5;refine K5 1000 N.NV rfl rfl ?_;(repeat' (apply AQ<;>conv=>whnf))
 refine FP (λ n=>n) (λ(n:Nat)=>n<=(O).length /\ ∀ i,n<=i->i<(O).length->(O)[i]? = some 0) (λ n=>[(3,.int .i64 n)]) (λ_=>[]) (O).length ⟨na _,λ i h1 h2=>D'⟩ ?_;intro n ⟨p1,p2⟩ ih;rcases n with _|n
 ·repeat' (first|(apply A7<;>intro hc<;>try omega)|apply AQ)<;>conv=>whnf
  refine M7 0 D' D' ?_;conv=>whnf
  have iw:=LD (l:=O) G' p1 p2 (Or.inl rfl);have q5:(pf 0 O).length<=(O).length:=by rw[yc];omega
  clear ih p2;refine qH (enc:=BK) D' ?_;conv=>whnf
  rw[Wb,Ke];generalize hT0:pf 0 O=T0 at *;refine Z6 (enc:=BK) (λ_=>rfl) D' D' ?_;conv=>whnf
  refine ⟨rfl,_,rfl,?_⟩;conv=>whnf
  (refine ⟨rfl,_,rfl,?_⟩;(conv=>whnf);(repeat' (first|apply HL|refine AU (hsv _) ?_)<;>conv=>whnf);refine H9 (enc:=BK) 0 rfl rfl rfl D' D' ?_;(conv=>whnf);rw[Jf]at iw;rw[iw];exact EA [] w_ (Adc N (x:=x) (X:=X) (Y:=Y) (s:=s) (u:=dg (X*2^s)++[0]) (y:=dg (Y*2^s)) h0 js ((HM _).append (NF D')) (by rw[WL,EH,Oc,xc]) p_ W_ (HM _) (EH _) D' (by rw[EH,qm];exact n2)))
 ·have e1:((n+1:Nat):Int)-1=n:=D'
  repeat' (first|(apply A7<;>intro hc<;>try omega)|(apply CB;omega)|(apply EP;omega)|(refine dZ G' ?_ (λ v hv hb => ?_);omega)|apply AQ)<;>conv=>whnf
  ·rw[e1]
   exact DB [] (ih n D' ⟨D',λ i h1 h2=>by
    by_cases h:i=n
    ·subst h
     rw[e1,Gb]at hv;rw[hv];congr 1;omega
    ·exact p2 i D' h2⟩)
  ·refine M7 (n+1) D' D' ?_
   (conv=>whnf)
   rw[e1,Gb]at hv;have iw:=LD (l:=O) G' p1 p2 (Or.inr ⟨_,hv,D'⟩);have q5:(pf (n+1) O).length<=(O).length:=by rw[yc];omega
   clear ih p2 hv;(rw[Acl (l:=O)];rotate_left;exact rfl;exact rfl);conv=>whnf
   refine qH (enc:=BK) D' ?_;conv=>whnf
   rw[Wb,Ke];generalize hT0:pf (n+1) O=T0 at *;refine Z6 (enc:=BK) (λ_=>rfl) D' D' ?_;conv=>whnf
   refine ⟨rfl,_,rfl,?_⟩;conv=>whnf
   (refine ⟨rfl,_,rfl,?_⟩;(conv=>whnf);(repeat' (first|apply HL|refine AU (hsv _) ?_)<;>conv=>whnf);refine H9 (enc:=BK) 0 rfl rfl rfl D' D' ?_;(conv=>whnf);rw[Jf]at iw;rw[iw];exact EA [] w_ (Adc N (x:=x) (X:=X) (Y:=Y) (s:=s) (u:=dg (X*2^s)++[0]) (y:=dg (Y*2^s)) h0 js ((HM _).append (NF D')) (by rw[WL,EH,Oc,xc]) p_ W_ (HM _) (EH _) D' (by rw[EH,qm];exact n2)))
theorem Aol (N:a8 L) (a b:a_) (q1 q2:Bool) (hA:CM a) (hB:CM b) (la:a.length<=274877906944) (lb:b.length<=274877906944) :
  Ev L 110 [.sl q1 (a.map BK),.sl q2 (b.map BK)] (.sl false ((dg (Wc (val a) (val b))).map BK)):=by
 have t1:=λ q=>K1 N a q hA D'
 have t2:=λ q=>K1 N b q hB D'
 have l1:=IQ hA;have l2:=IQ hB;generalize val a=X at *;generalize val b=Y at *;refine Ev.x N.X5 rfl rfl ?_;repeat' (first|apply AQ|refine AU (t1 _) ?_|refine AU (t2 _) ?_)<;>conv=>whnf
 refine LJ (λ_ y=>y) (λ(x y:Nat)=>(dg x).length<=274877906944/\(dg y).length<=274877906944/\Wc x y=Wc X Y) (λ x y=>[(0,.sl false ((dg x).map BK)),(1,.sl false ((dg y).map BK))]) (λ_ _=>[]) X Y ⟨D',D',rfl⟩ ?_;intro x y ⟨p1,p2,p3⟩ ih;rw[<-p3];by_cases h0:y=0
 ·subst h0
  have qz:(dg 0).length=0:=by rw[I6];rfl
  clear ih;rw[Qg];repeat' (first|(apply A7<;>intro hc<;>try omega)|apply BW|apply AQ)<;>conv=>whnf
  exact B1 rfl (RD _)
 ·have hp:=mI h0
  have hD:=λ q q'=>Ad4 N (dg x) (dg y) q q' (HM _) (HM _) p1 p2 (by rw[EH];exact h0)
  rw[EH,EH]at hD;have n7:x%y<y:=Qc _ D';have gx:=aK (Kg n7);repeat' (first|(apply A7<;>intro hc<;>try omega)|apply BW|apply AQ|refine AU (hD _ _) ?_)<;>conv=>whnf
  rw[p3];exact DB [] (ih y (x%y) n7 ⟨p2,D',by rw[nD];exact p3⟩)
theorem RF (N:a8 L) (n q:Bool) (m:a_) (hm:Sm 274877906944 m):Ev L 111 [.agg (rZ q n m)] (.agg (eZ (zv n m))):=by
 have hT:=λ q=>K1 N m q hm.1 (by have:=hm.2;omega)
 have hz:=OP (val m);have ha:=IP n m;refine Ev.x N.cT rfl rfl ?_;cases n
 ·rw[II]at *
  repeat' (first|apply AQ|refine AU (hT _) ?_)<;>conv=>whnf
  exact B1 (IO ha.symm (LG D')) (HA _)
 ·rw[YP]at *
  repeat' (first|(apply A7<;>intro hc<;>try omega)|apply BW|apply AQ|refine AU (hT _) ?_)<;>conv=>whnf
  ·exact B1 (IO ha.symm (WG D')) (HA _)
  ·exact B1 (IO ha.symm (LG D')) (HA _)
theorem mP (N:a8 L) (n q:Bool) (m:a_) (hm:Sm 274877906944 m):Ev L 113 [.agg (rZ q n m)] (.int .i64 (ah (zv n m))):=by
 have hT:=λ q=>RF N n q m hm
 generalize zv n m=z at *;have hz:=OP z.natAbs;refine Ev.x N.cQ rfl rfl ?_;repeat' (first|(apply A7<;>intro hc<;>try omega)|apply BW|apply AQ|refine AU (hT _) ?_)<;>conv=>whnf
 ·exact F2 (uF D')
 ·cases hd:decide (z<0)
  ·(conv=>whnf)
   exact F2 (Abe (by have:=of_decide_eq_false hd;omega))
  ·(conv=>whnf)
   exact F2 (Abd (of_decide_eq_true hd))
theorem yU (N:a8 L) (n q:Bool) (m:a_) (hm:Sm 274877906944 m):Ev L 114 [.agg (rZ q n m)] (.agg (eZ (-(zv n m)))):=by
 have hT:=λ q=>RF N n q m hm
 generalize zv n m=z at *;have hz:=OP z.natAbs;refine Ev.x N.cO rfl rfl ?_;repeat' (first|apply AQ|refine AU (hT _) ?_)<;>conv=>whnf
 cases hd:decide (z<0)
 ·have h1:=of_decide_eq_false hd
  (conv=>whnf)
  repeat' (first|(apply A7<;>intro hc<;>try omega)|apply BW)<;>conv=>whnf
  ·exact B1 (IO D' (WG D')) (HA _)
  ·exact B1 (IO D' (LG D')) (HA _)
 ·have h1:=of_decide_eq_true hd
  (conv=>whnf)
  skip
  exact B1 (IO D' (LG D')) (HA _)
theorem ZA (N:a8 L) (n1 n2 q1 q2:Bool) (a b:a_) (ha:CM a) (hb:CM b) (hl:a.length+b.length<=274877906944):Ev L 118 [.agg (rZ q1 n1 a),.agg (rZ q2 n2 b)] (.agg (eZ (zv n1 a*zv n2 b))):=by
 have h1:=λ q q'=>Aom N a b q q' ha hb D'
 have sa:Sm a.length a:=⟨ha,na _⟩;have sb:Sm b.length b:=⟨hb,na _⟩;have hT:=λ n q=>RF N n q (dg (val a*val b)) ((sa.mul sb rfl).le hl)
 have e : ∀ n,zv n (dg (val a*val b))=bif n then -((val a*val b:Nat):Int) else ((val a*val b:Nat):Int):=λ n=>by unfold zv;rw[EH]
 have e2:zv n1 a*zv n2 b=zv (n1 != n2) (dg (val a*val b)):=by
  rw[e];cases n1<;>cases n2<;>simp [II,YP,fh,cj]
 rw[e2];refine Ev.x N.cN rfl rfl ?_;cases n1<;>cases n2;all_goals
  repeat' (first|apply AQ|refine AU (h1 _ _) ?_|refine AU (hT _ _) ?_)<;>conv=>whnf
  exact B1 rfl (HA _)
theorem Ad6 (N:a8 L) (n1 n2 q1 q2:Bool) (a b:a_) (ha:Sm 274877906943 a) (hb:Sm 274877906943 b):Ev L 115 [.agg (rZ q1 n1 a),.agg (rZ q2 n2 b)] (.agg (eZ (zv n1 a+zv n2 b))):=by
 have t1:=λ q=>RF N n1 q a (ha.le D')
 have t2:=λ q=>RF N n2 q b (hb.le D')
 have s1:Sm 274877906943 (dg (zv n1 a).natAbs):=by rw[IP];exact ha.Gk
 have s2:Sm 274877906943 (dg (zv n2 b).natAbs):=by rw[IP];exact hb.Gk
 generalize zv n1 a=x at *;generalize zv n2 b=y at *;have h1:=λ q q'=>Ad3 N (dg x.natAbs) (dg y.natAbs) q q' s1.1 s2.1 (by have:=s1.2;omega) (by have:=s2.2;omega)
 have h2:=λ q q'=>yT N (dg x.natAbs) (dg y.natAbs) q q' s1.1 s2.1 (by have:=s1.2;omega) (by have:=s2.2;omega)
 have h3:=λ q q'=>yT N (dg y.natAbs) (dg x.natAbs) q q' s2.1 s1.1 (by have:=s2.2;omega) (by have:=s1.2;omega)
 have n0:=λ q q'=>yR N (dg x.natAbs) (dg y.natAbs) q q' s1.1 s2.1 (by have:=s1.2;omega) (by have:=s2.2;omega)
 rw[EH,EH]at h1 h2 h3 n0;have u1:=λ n q=>RF N n q (dg (x.natAbs+y.natAbs)) (s1.add s2 (by rw[EH,EH];omega))
 have u2:=λ n q=>RF N n q (dg (x.natAbs-y.natAbs)) ((s1.low (V:=x.natAbs-y.natAbs) (by rw[EH];omega)).le D')
 have u3:=λ n q=>RF N n q (dg (y.natAbs-x.natAbs)) ((s2.low (V:=y.natAbs-x.natAbs) (by rw[EH];omega)).le D')
 have e : ∀ n V,zv n (dg V)=bif n then -(V:Int) else (V:Int):=λ n V=>by unfold zv;rw[EH]
 refine Ev.x N.cI rfl rfl ?_;repeat' (first|apply AQ|refine AU (t1 _) ?_|refine AU (t2 _) ?_)<;>conv=>whnf
 cases hx:decide (x<0)<;>cases hy:decide (y<0)
 ·have g1:=of_decide_eq_false hx
  have g2:=of_decide_eq_false hy;have hz:x+y=zv false (dg (x.natAbs+y.natAbs)):=by rw[e];simp only[cond_true,cond_false];omega
  rw[hz];conv=>whnf
  repeat' (first|refine AU (h1 _ _) ?_|refine AU (u1 _ _) ?_)<;>conv=>whnf
  exact B1 rfl (HA _)
 ·have g1:=of_decide_eq_false hx
  have g2:=of_decide_eq_true hy;by_cases n7:x.natAbs<y.natAbs
  ·have hz:x+y=zv true (dg (y.natAbs-x.natAbs)):=by rw[e];simp only[cond_true,cond_false];omega
   rw[hz];rw[<-OM D']at n0;conv=>whnf
   repeat' (first|(apply A7<;>intro hc<;>try omega)|refine AU (n0 _ _) ?_|refine AU (h3 _ _) ?_|refine AU (u3 _ _) ?_)<;>conv=>whnf
   exact B1 rfl (HA _)
  ·have hz:x+y=zv false (dg (x.natAbs-y.natAbs)):=by rw[e];simp only[cond_true,cond_false];omega
   rw[hz];have vi:=qY (show y.natAbs<=x.natAbs by omega);generalize GE (x.natAbs:Nat) (y.natAbs:Nat)=cm at *;conv=>whnf
   repeat' (first|(apply A7<;>intro hc<;>try omega)|refine AU (n0 _ _) ?_|refine AU (h2 _ _) ?_|refine AU (u2 _ _) ?_)<;>conv=>whnf
   exact B1 rfl (HA _)
 ·have g1:=of_decide_eq_true hx
  have g2:=of_decide_eq_false hy;by_cases n7:x.natAbs<y.natAbs
  ·have hz:x+y=zv false (dg (y.natAbs-x.natAbs)):=by rw[e];simp only[cond_true,cond_false];omega
   rw[hz];rw[<-OM D']at n0;conv=>whnf
   repeat' (first|(apply A7<;>intro hc<;>try omega)|refine AU (n0 _ _) ?_|refine AU (h3 _ _) ?_|refine AU (u3 _ _) ?_)<;>conv=>whnf
   exact B1 rfl (HA _)
  ·have hz:x+y=zv true (dg (x.natAbs-y.natAbs)):=by rw[e];simp only[cond_true,cond_false];omega
   rw[hz];have vi:=qY (show y.natAbs<=x.natAbs by omega);generalize GE (x.natAbs:Nat) (y.natAbs:Nat)=cm at *;conv=>whnf
   repeat' (first|(apply A7<;>intro hc<;>try omega)|refine AU (n0 _ _) ?_|refine AU (h2 _ _) ?_|refine AU (u2 _ _) ?_)<;>conv=>whnf
   exact B1 rfl (HA _)
 ·have g1:=of_decide_eq_true hx
  have g2:=of_decide_eq_true hy;have hz:x+y=zv true (dg (x.natAbs+y.natAbs)):=by rw[e];simp only[cond_true,cond_false];omega
  rw[hz];conv=>whnf
  repeat' (first|refine AU (h1 _ _) ?_|refine AU (u1 _ _) ?_)<;>conv=>whnf
  exact B1 rfl (HA _)
theorem Aor (N:a8 L) (n1 n2 q1 q2:Bool) (a b:a_) (ha:Sm 274877906943 a) (hb:Sm 274877906943 b):Ev L 116 [.agg (rZ q1 n1 a),.agg (rZ q2 n2 b)] (.agg (eZ (zv n1 a-zv n2 b))):=by
 have t2:=λ q=>yU N n2 q b (hb.le D')
 have s2:Sm 274877906943 (dg (-(zv n2 b)).natAbs):=by rw[Ug,IP];exact hb.Gk
 have h1:=λ q q'=>Ad6 N n1 (decide (-(zv n2 b)<0)) q q' a (dg (-(zv n2 b)).natAbs) ha s2
 rw[JE,<-Oi]at h1;refine Ev.x N.cR rfl rfl ?_;repeat' (first|apply AQ|refine AU (t2 _) ?_|refine AU (h1 _ _) ?_)<;>conv=>whnf
 exact B1 rfl (HA _)
theorem Aop (N:a8 L) (n1 n2 q1 q2:Bool) (a b:a_) (ha:Sm 274877906943 a) (hb:Sm 274877906943 b):Ev L 117 [.agg (rZ q1 n1 a),.agg (rZ q2 n2 b)] (.int .i64 (ah (zv n1 a-zv n2 b))):=by
 have h1:=λ q q'=>Aor N n1 n2 q q' a b ha hb
 have s1:Sm 274877906943 (dg (zv n1 a).natAbs):=by rw[IP];exact ha.Gk
 have s2:Sm 274877906943 (dg (zv n2 b).natAbs):=by rw[IP];exact hb.Gk
 have s3:Sm 274877906944 (dg (zv n1 a-zv n2 b).natAbs):=s1.add s2 (by rw[EH,EH];omega);have h2:=λ q=>mP N (decide (zv n1 a-zv n2 b<0)) q (dg (zv n1 a-zv n2 b).natAbs) s3
 rw[JE]at h2;refine Ev.x N.cK rfl rfl ?_;repeat' (first|apply AQ|refine AU (h1 _ _) ?_|refine AU (h2 _) ?_)<;>conv=>whnf
 exact F2 rfl
theorem yV (N:a8 L) (z:Int) (hz : -9223372036854775808<=z/\z<=9223372036854775807):Ev L 112 [.int .i64 z] (.agg (eZ z)):=by
 have two : ∀ k:Nat,k<18446744073709551616 -> ∀ n q,Ev L 111 [.agg [.bool n,.sl q [[.int .u32 ((k%4294967296:Nat):Int)],[.int .u32 ((k/4294967296:Nat):Int)]]]] (.agg (eZ (bif n then -(k:Int) else (k:Int)))):=λ k hk n q=>by
  have:=RF N n q [k%4294967296,k/4294967296] ⟨(xH hk).2,p_⟩
  unfold zv at this;rw[Aho hk]at this;exact this
 refine Ev.x N.cP rfl rfl ?_;by_cases h0:0<=z
 ·obtain ⟨k,rfl⟩:=Oe h0
  have hT:=two k D';repeat' (first|(apply A7<;>intro hc<;>try omega)|apply JU|(apply E2;omega)|(apply IA;omega)|apply J7|refine iX rfl rfl ?_|apply AQ)<;>conv=>whnf
  generalize k%4294967296=lo at *;generalize k/4294967296=hi at *;(repeat' (refine AU (hT _ _) ?_<;>conv=>whnf))
  exact B1 rfl (HA _)
 ·obtain ⟨k,hk⟩:=Oe (show 0 <= -(z+1) by omega)
  have ru:z = -((k+1:Nat):Int):=D'
  have hT:=two (k+1) D';repeat' (first|(apply A7<;>intro hc<;>try omega)|(apply B5;omega)|apply Ajk|(apply FH.neg;omega)|(apply E2;omega)|apply AQ)<;>conv=>whnf
  rw[show IntKind.u64.wrap (-(z+1)+1)=((k+1:Nat):Int) by rw[IntWalk.u64_in _ D'];omega];rw[ru];generalize k+1=k1 at *;repeat' (first|apply JU|(apply IA;omega)|apply J7|refine iX rfl rfl ?_)<;>conv=>whnf
  generalize k1%4294967296=lo at *;generalize k1/4294967296=hi at *;(repeat' (refine AU (hT _ _) ?_<;>conv=>whnf))
  exact B1 rfl (HA _)
theorem Aoq (N:a8 L) (n1 n2 q1 q2:Bool) (a b:a_) (ha:Sm 274877906944 a) (hb:Sm 274877906944 b):Ev L 120 [.agg (rZ q1 n1 a),.agg (rZ q2 n2 b)] (.agg (eZ ((Wc (val a) (val b):Nat):Int))):=by
 have h1:=λ q q'=>Aol N a b q q' ha.1 hb.1 ha.2 hb.2
 refine Ev.x N.cM rfl rfl ?_;repeat' (first|apply AQ|refine AU (h1 _ _) ?_)<;>conv=>whnf
 exact B1 (IO D' (LG D')) (HA _)
theorem Am2 (n1 n2:Bool) (A B:Nat) (hB:B≠0):(bif n1 then -(A:Int) else (A:Int))/(bif n2 then -(B:Int) else (B:Int))=(bif n1 != n2 then -((if n1=true/\A%B≠0 then A/B+1 else A/B:Nat):Int) else ((if n1=true/\A%B≠0 then A/B+1 else A/B:Nat):Int)) /\
  (bif n1 then -(A:Int) else (A:Int))%(bif n2 then -(B:Int) else (B:Int))=((if n1=true/\A%B≠0 then B-A%B else A%B:Nat):Int):=by
 have hBp:(0:Int)<B:=D'
 have key : ∀ x:Int,x/(bif n2 then -(B:Int) else (B:Int))=(bif n2 then -(x/B) else x/B)/\x%(bif n2 then -(B:Int) else (B:Int))=x%B:=λ x=>by
  cases n2
  ·exact ⟨rfl,rfl⟩
  ·exact ⟨Int.ediv_neg x B,Int.emod_neg x B⟩
 rw[(key _).1,(key _).2];cases n1
 ·have h1:((A:Int))/B=((A/B:Nat):Int):=p_
  have h2:((A:Int))%B=((A%B:Nat):Int):=p_
  simp only[cond_false,h1,h2];cases n2<;>simp
 ·have hd:=Ce A B
  have n7:=Qc A (show B>0 by omega);by_cases h0:A%B=0
  ·have e : -(A:Int)=(B:Int)*(-((A/B:Nat):Int)):=by
    rw[h0,xc]at hd;rw[fh,<-Te,hd]
   have h1 : -(A:Int)/B = -((A/B:Nat):Int):=by rw[e,Ed _ D']
   have h2 : -(A:Int)%B=0:=by rw[e,Int.mul_emod_right]
   simp only[cond_true,h1,h2,h0];cases n2<;>simp
  ·have e : -(A:Int)=(B:Int)*(-((A/B+1:Nat):Int))+((B-A%B:Nat):Int):=by
    have h3:(B:Int)*((A/B:Nat):Int)+((A%B:Nat):Int)=A:=by rw[<-Te,<-gg,hd]
    rw[fh,gg,Int.mul_add];omega
   have h1 : -(A:Int)/B = -((A/B+1:Nat):Int):=by
    rw[e,Int.mul_add_ediv_left _ _ D',Int.ediv_eq_zero_of_lt D' D',ni]
   have h2 : -(A:Int)%B=((B-A%B:Nat):Int):=by
    rw[e,Int.mul_add_emod_self_left,Int.emod_eq_of_lt D' D']
   simp only[cond_true,h1,h2];cases n2<;>simp [h0]
theorem Ad7 (N:a8 L) (n1 n2 q1 q2:Bool) (a b:a_) (ha:Sm 274877906943 a) (hb:Sm 274877906943 b) (h0:zv n2 b≠0):Ev L 119 [.agg (rZ q1 n1 a),.agg (rZ q2 n2 b)] (.e9 [.agg (eZ (zv n1 a/zv n2 b)),.agg (eZ (zv n1 a%zv n2 b)),.int .i64 0]):=by
 have t1:=λ q=>RF N n1 q a (ha.le D')
 have t2:=λ q=>RF N n2 q b (hb.le D')
 have s1:Sm 274877906943 (dg (zv n1 a).natAbs):=by rw[IP];exact ha.Gk
 have s2:Sm 274877906943 (dg (zv n2 b).natAbs):=by rw[IP];exact hb.Gk
 generalize zv n1 a=x at *;generalize zv n2 b=y at *;have Pj:=λ q q'=>Ad4 N (dg x.natAbs) (dg y.natAbs) q q' s1.1 s2.1 (by have:=s1.2;omega) (by have:=s2.2;omega) (by rw[EH];omega)
 rw[EH,EH]at Pj;obtain ⟨e1,e2⟩:=Am2 (decide (x<0)) (decide (y<0)) x.natAbs y.natAbs D';have hx:(bif decide (x<0) then -(x.natAbs:Int) else (x.natAbs:Int))=x:=by have:=JE x;unfold zv at this;rw[EH]at this;exact this
 have hy:(bif decide (y<0) then -(y.natAbs:Int) else (y.natAbs:Int))=y:=by have:=JE y;unfold zv at this;rw[EH]at this;exact this
 rw[hx,hy]at e1 e2;rw[e1,e2];have l1:=s1.2;have l2:=s2.2;have hq:Sm 274877906943 (dg (x.natAbs/y.natAbs)):=s1.low (by rw[EH];exact Nat.div_le_self _ _);have hr:Sm 274877906943 (dg (x.natAbs%y.natAbs)):=s2.low (by rw[EH];exact Kg (Qc _ D'));have hrz:=OP (x.natAbs%y.natAbs);have py:Ev L 103 [.sl false ((dg (x.natAbs/y.natAbs)).map BK),.sl true [[.int .u32 1]]] (.sl false ((dg (x.natAbs/y.natAbs+1)).map BK)):=by
  have:=Ad3 N (dg (x.natAbs/y.natAbs)) [1] false true (HM _) (NF D') (by have:=hq.2;omega) p_
  rw[EH,show val [1]=1 from rfl]at this;exact this
 have Ii:Sm 274877906944 (dg (x.natAbs/y.natAbs+1)):=hq.add (b:=[1]) (Abh D' D') (by rw[EH];simp [val]);have Us:=λ q q'=>yT N (dg y.natAbs) (dg (x.natAbs%y.natAbs)) q q' s2.1 hr.1 D' (by have:=hr.2;omega)
 rw[EH,EH]at Us;have u1:=λ n q=>RF N n q (dg (x.natAbs/y.natAbs)) (hq.le D')
 have u2:=λ n q=>RF N n q (dg (x.natAbs/y.natAbs+1)) Ii
 have ez : ∀ n V,zv n (dg V)=bif n then -(V:Int) else (V:Int):=λ n V=>by unfold zv;rw[EH]
 have fin : ∀ (z:Int) (V:Nat),BH (.e9 [.agg (eZ z),.agg [.bool false,.sl false ((dg V).map BK)],.int .i64 0]) (.e9 [.agg (eZ z),.agg (eZ (V:Int)),.int .i64 0]):=λ z V=>by
  have e3:AV.agg (eZ (V:Int)) = .agg [.bool false,.sl false ((dg V).map BK)]:=(IO D' (LG D')).symm;rw[e3];refine B1 rfl ?_;simp only[CI,ES,and_true,true_and];exact ⟨EW _,EW _⟩
 clear e1 e2 hx hy;generalize x.natAbs/y.natAbs=qq at *;generalize x.natAbs%y.natAbs=rr at *;refine Ev.x N.cL rfl rfl ?_;repeat' (first|(apply A7<;>intro hc<;>try omega)|apply AQ|refine AU (t1 _) ?_|refine AU (t2 _) ?_|refine AU (Pj _ _) ?_)<;>conv=>whnf
 generalize decide (x<0)=p at *;generalize decide (y<0)=r at *;cases p
 ·rw[if_neg p_,if_neg p_,<-ez]
  cases r;all_goals
   (conv=>whnf)
   (repeat' (refine AU (u1 _ _) ?_<;>conv=>whnf))
   exact fin _ _
 ·by_cases z7:rr=0
  ·rw[if_neg (by simp [z7]),if_neg (by simp [z7]),<-ez]
   cases r;all_goals
    (conv=>whnf)
    repeat' (first|(apply A7<;>intro hc<;>try omega)|apply BW|refine AU (u1 _ _) ?_)<;>conv=>whnf
    exact fin _ _
  ·rw[if_pos ⟨rfl,z7⟩,if_pos ⟨rfl,z7⟩,<-ez]
   cases r;all_goals
    (conv=>whnf)
    repeat' (first|(apply A7<;>intro hc<;>try omega)|apply BW|refine OA rfl ?_|refine AU (py) ?_|refine AU (Us _ _) ?_|refine AU (u2 _ _) ?_)<;>conv=>whnf
    exact fin _ _
theorem Ac6:dg 1=[1]:=by rw[QJ D'];simp [I6]
theorem Ack:AV.agg [.bool false,.sl false [],.sl false [[.int .u32 1]]] = .agg (eQ 0):=by
 show _=AV.agg (rQ _ _ _ _ _);rw[Rat.zero_num,Rat.zero_den,Ac6,show (0:Int).natAbs=0 from rfl,I6];rfl
theorem Al2 {x y:Int} (hy:y≠0):(Ef x y).num=(if y<0 then -(x/((Wc x.natAbs y.natAbs:Nat):Int)) else x/((Wc x.natAbs y.natAbs:Nat):Int))/\(Ef x y).den=(y/((Wc x.natAbs y.natAbs:Nat):Int)).natAbs:=by
 have h1:=Rat.num_divInt x y;have h2:=Rat.den_divInt x y;rw[if_neg hy]at h2;have hg:Vj y x=Wc x.natAbs y.natAbs:=by rw[Vj,nj]
 rw[hg]at h1 h2;have hgp:0<Wc x.natAbs y.natAbs:=Ph _ D';have dx:((Wc x.natAbs y.natAbs:Nat):Int) ∣ x:=Ni.2 (Nat.gcd_dvd_left _ _);have dy:((Wc x.natAbs y.natAbs:Nat):Int) ∣ y:=Ni.2 (Nat.gcd_dvd_right _ _);generalize Wc x.natAbs y.natAbs=g at *;rw[h1,h2];obtain ⟨u,rfl⟩:=dx;obtain ⟨v,rfl⟩:=dy;have Fy:(g:Int)≠0:=D'
 refine ⟨?_,?_⟩
 ·rw[Ed _ Fy]
  split
  ·rename_i h
   rw[Int.sign_eq_neg_one_of_neg h,show -1*((g:Int)*u)=g*(-u) by rw[fh];omega,Ed _ Fy]
  ·rw[Int.sign_eq_one_of_pos D',Int.one_mul,Ed _ Fy]
 ·rw[Ed _ Fy,Bd,Pg,Nat.mul_div_cancel_left _ hgp]
theorem mQ (N:a8 L) (n1 n2 q1 q2:Bool) (a b:a_) (ha:Sm 274877906943 a) (hb:Sm 274877906943 b):Ev L 121 [.agg (rZ q1 n1 a),.agg (rZ q2 n2 b)] (.agg (eQ (Ef (zv n1 a) (zv n2 b)))):=by
 have t1:=λ q=>mP N n1 q a (ha.le D')
 have t2:=λ q=>mP N n2 q b (hb.le D')
 by_cases h1:zv n1 a=0
 ·rw[h1,Rat.zero_divInt,<-Ack]
  rw[h1,<-uF rfl]at t1;refine Ev.x N.VB rfl rfl ?_;repeat' (first|(apply A7<;>intro hc<;>try omega)|refine OA rfl ?_|apply AQ|refine AU (t1 _) ?_)<;>conv=>whnf
  exact B1 rfl (qU false [] [1])
 have s1:ah (zv n1 a)≠0:=by unfold ah;split<;>(try split)<;>omega
 by_cases h2:zv n2 b=0
 ·rw[h2,Rat.divInt_zero,<-Ack]
  rw[h2,<-uF rfl]at t2;generalize ah (zv n1 a)=sg at *;refine Ev.x N.VB rfl rfl ?_;repeat' (first|(apply A7<;>intro hc<;>try omega)|refine OA rfl ?_|apply AQ|refine AU (t1 _) ?_|refine AU (t2 _) ?_)<;>conv=>whnf
  exact B1 rfl (qU false [] [1])
 have s2:ah (zv n2 b)≠0:=by unfold ah;split<;>(try split)<;>omega
 obtain ⟨p1,p2⟩:=Al2 (x:=zv n1 a) h2;have hG:=λ q q'=>Aoq N n1 n2 q q' a b (ha.le D') (hb.le D')
 have hle:Wc (val a) (val b)<=val b:=Nat.gcd_le_right _ (by have:=IP n2 b;omega);have hgp:0<Wc (val a) (val b):=Ph _ (by have:=IP n2 b;omega);have sg:Sm 274877906943 (dg (Wc (val a) (val b))):=hb.low hle;rw[IP,IP]at p1 p2;have hgf:decide (((Wc (val a) (val b):Nat):Int)<0)=false:=p_
 have sg':Sm 274877906943 (dg (((Wc (val a) (val b):Nat):Int)).natAbs):=by rw[Pg];exact sg
 have zg:zv (decide (((Wc (val a) (val b):Nat):Int)<0)) (dg (((Wc (val a) (val b):Nat):Int)).natAbs)=((Wc (val a) (val b):Nat):Int):=JE _;have Dh:=λ q q'=>Ad7 N n1 _ q q' a _ ha sg' (by rw[zg];omega)
 have ux:=λ q q'=>Ad7 N n2 _ q q' b _ hb sg' (by rw[zg];omega)
 rw[zg]at Dh ux;have Eb:Sm 274877906943 (dg (zv n1 a/((Wc (val a) (val b):Nat):Int)).natAbs):=ha.low (by
  have:(zv n1 a/((Wc (val a) (val b):Nat):Int)).natAbs<=(zv n1 a).natAbs:=Int.natAbs_ediv_le_natAbs _ _
  rw[IP]at this;exact this)
 have Fy:0<((Wc (val a) (val b):Nat):Int):=D'
 generalize ((Wc (val a) (val b):Nat):Int)=g at *;generalize zv n1 a=x at *;generalize zv n2 b=y at *;generalize ah x=sx at *;generalize ah y=sy at *;have hN:=λ q=>yU N (decide (x/g<0)) q (dg (x/g).natAbs) (Eb.le D')
 rw[JE]at hN;have Qn:decide (y/g<0)=decide (y<0):=by
  congr 1;rw[eq_iff_iff,Int.ediv_lt_iff_lt_mul D',Int.zero_mul]
 refine Ev.x N.VB rfl rfl ?_;repeat' (first|(apply A7<;>intro hc<;>try omega)|apply AQ|refine AU (t1 _) ?_|refine AU (t2 _) ?_|refine AU (hG _ _) ?_|refine AU (Dh _ _) ?_|refine AU (ux _ _) ?_)<;>conv=>whnf
 cases hyn:decide (y/g<0)
 ·rw[hyn]at Qn
  rw[if_neg (of_decide_eq_false Qn.symm)]at p1;conv=>whnf
  skip
  refine B1 ?_ (GD _);show _=AV.agg (rQ _ _ _ _ _);rw[p1,p2]
 ·rw[hyn]at Qn
  rw[if_pos (of_decide_eq_true Qn.symm)]at p1;conv=>whnf
  (repeat' (refine AU (hN _) ?_<;>conv=>whnf))
  refine B1 ?_ (GD _);show _=AV.agg (rQ _ _ _ _ _);rw[p1,p2]
theorem Al3 {z:Int} {d:a_}:Ef z (zv false d)=mkRat z (val d):=by rw[II,Dd]
def Ajl (n:Bool) (m d:a_) (n':Bool) (m' d':a_) (k:Nat):Prop:=Sm k m'/\Sm k d'/\val d'≠0/\qv n m d=mkRat (zv n' m') (val d')
theorem AcJ (n:Bool) (m d:a_):CI (.e9 [.agg (rZ false n m),.agg (rZ false false d)]):=by
 simp only[CI,ES,and_true,true_and];exact ⟨EW _,EW _⟩
theorem W4 (N:a8 L) (n q:Bool) (m d:a_) (k:Nat) (hk:1<=k/\k<=274877906943) (hm:Sm k m) (hd:Sm k d) : ∃ n' m' d',Ev L 122 [.agg (rQ false q n m d)] (.e9 [.agg (rZ false n' m'),.agg (rZ false false d')])/\Ajl n m d n' m' d' k:=by
 have t1:=λ q=>K1 N d q hd.1 (by have:=hd.2;omega)
 have hl:=OP (val d);by_cases h0:val d=0
 ·refine ⟨false,[],[1],?_,uG _,Abh hk.1 D',o_,by unfold qv;rw[h0,Rat.mkRat_zero,AhU,Rat.zero_mkRat]⟩
  refine Ev.x N.X7 rfl rfl ?_;repeat' (first|(apply A7<;>intro hc<;>try omega)|apply BW|refine OA rfl ?_|apply AQ|refine AU (t1 _) ?_)<;>conv=>whnf
  exact B1 rfl (AcJ false [] [1])
 ·refine ⟨n,m,dg (val d),?_,hm,hd.Gk,by rw[EH];exact h0,by rw[EH];rfl⟩
  refine Ev.x N.X7 rfl rfl ?_;repeat' (first|(apply A7<;>intro hc<;>try omega)|apply BW|apply AQ|refine AU (t1 _) ?_)<;>conv=>whnf
  exact B1 rfl (AcJ _ _ _)
theorem Ad8 (N:a8 L) (n q:Bool) (m d:a_) (hm:Sm 274877906943 m) (hd:Sm 274877906943 d) {q0:Bool}:Ev L 123 [.agg (rQ q0 q n m d)] (.agg (eQ (qv n m d))):=by
 obtain ⟨n',m',d',hp,s1,s2,s3,s4⟩:=W4 N n false m d 274877906943 D' hm hd;have hr:=λ q q'=>mQ N n' false q q' m' d' s1 s2
 rw[Al3,<-s4]at hr;refine Ev.x N.dE rfl rfl ?_;repeat' (first|apply iS|apply AQ|refine AU (hp) ?_|refine AU (hr _ _) ?_)<;>conv=>whnf
 exact B1 rfl (GD _)
theorem AkA (z:Int):AV.agg [.bool (decide (z<0)),.sl false ((dg z.natAbs).map BK),.sl false [[.int .u32 1]]] = .agg (eQ (z:Rat)):=by
 show _=AV.agg (rQ _ _ _ _ _);rw[Rat.num_intCast,Rat.den_intCast,Ac6];rfl
theorem ZB (N:a8 L) (z:Int) (hz : -9223372036854775808<=z/\z<=9223372036854775807):Ev L 124 [.int .i64 z] (.agg (eQ (z:Rat))):=by
 have h1:=yV N z hz;refine Ev.x N.dB rfl rfl ?_;repeat' (first|refine OA rfl ?_|apply AQ|refine AU (h1) ?_)<;>conv=>whnf
 exact B1 (AkA z) (GD _)
theorem AgC {z:Int} (hz : -9223372036854775808<=z/\z<=9223372036854775808):Sm 2 (dg z.natAbs):=Sm.dg D'
theorem rY (N:a8 L) (x y:Int) (hx : -9223372036854775808<=x/\x<=9223372036854775807) (hy : -9223372036854775808<=y/\y<=9223372036854775807):Ev L 125 [.int .i64 x,.int .i64 y] (.agg (eQ (Ef x y))):=by
 have h1:=yV N x hx;have h2:=yV N y hy;have hr:=λ q q'=>mQ N (decide (x<0)) (decide (y<0)) q q' _ _ ((AgC (z:=x) D').le D') ((AgC (z:=y) D').le D')
 rw[JE,JE]at hr;refine Ev.x N.cY rfl rfl ?_;repeat' (first|apply AQ|refine AU (h1) ?_|refine AU (h2) ?_|refine AU (hr _ _) ?_)<;>conv=>whnf
 exact B1 rfl (GD _)
theorem ZY {k l:Nat} {n1 n2:Bool} {a b:a_} (ha:Sm k a) (hb:Sm l b):Sm (k+l) (dg (zv n1 a*zv n2 b).natAbs):=ha.mul hb (by rw[Bd,IP,IP])
theorem Ase {k:Nat} {x y:Int} (ha:Sm k (dg x.natAbs)) (hb:Sm k (dg y.natAbs)):Sm (k+1) (dg (x+y).natAbs):=ha.add hb (by rw[EH,EH];omega)
theorem yW (N:a8 L) (k:Nat) (hk:1<=k/\k<=68719476736) (n1 n2 q2 q4:Bool) (m1 d1 m2 d2:a_) (ti:Sm k m1) (zi:Sm k d1) (pd:Sm k m2) (zj:Sm k d2) {q1 q3:Bool} :
  Ev L 126 [.agg (rQ q1 q2 n1 m1 d1),.agg (rQ q3 q4 n2 m2 d2)] (.agg (eQ (qv n1 m1 d1+qv n2 m2 d2))):=by
 obtain ⟨a1,a2,a3,du,s1,s2,s3,s5⟩:=W4 N n1 false m1 d1 k D' ti zi;obtain ⟨b1,b2,b3,il,t1,t2,t3,t5⟩:=W4 N n2 false m2 d2 k D' pd zj;have l1:=s1.2;have l2:=s2.2;have l3:=t1.2;have l4:=t2.2;rw[s5,t5,sQ s3 t3,<-II b3,<-II a3];have fi:=λ q q'=>ZA N a1 false q q' a2 b3 s1.1 t2.1 D'
 have fr:=λ q q'=>ZA N b1 false q q' b2 a3 t1.1 s2.1 D'
 have Bv:=λ q q'=>ZA N false false q q' a3 b3 s2.1 t2.1 D'
 have g1:Sm (k+k) (dg (zv a1 a2*zv false b3).natAbs):=ZY s1 t2;have g2:Sm (k+k) (dg (zv b1 b2*zv false a3).natAbs):=ZY t1 s2;have g3:=Ase g1 g2;have g4:Sm (k+k) (dg (zv false a3*zv false b3).natAbs):=ZY s2 t2;have hA:=λ q q'=>Ad6 N (decide (zv a1 a2*zv false b3<0)) (decide (zv b1 b2*zv false a3<0)) q q' _ _ (g1.le D') (g2.le D')
 rw[JE,JE]at hA;have hR:=λ q q'=>mQ N (decide (zv a1 a2*zv false b3+zv b1 b2*zv false a3<0)) (decide (zv false a3*zv false b3<0)) q q' _ _ (g3.le D') (g4.le D')
 rw[JE,JE,show zv false a3*zv false b3=((val a3*val b3:Nat):Int) by rw[II,II];simp,Dd]at hR;rw[show zv false a3*zv false b3=((val a3*val b3:Nat):Int) by rw[II,II];simp]at Bv;refine Ev.x N.cV rfl rfl ?_;repeat' (first|apply iS|apply AQ|refine AU (du) ?_|refine AU (il) ?_|refine AU (fi _ _) ?_|refine AU (fr _ _) ?_|refine AU (hA _ _) ?_|refine AU (Bv _ _) ?_|refine AU (hR _ _) ?_)<;>conv=>whnf
 exact B1 rfl (GD _)
theorem yX (N:a8 L) (k:Nat) (hk:1<=k/\k<=68719476736) (n1 n2 q2 q4:Bool) (m1 d1 m2 d2:a_) (ti:Sm k m1) (zi:Sm k d1) (pd:Sm k m2) (zj:Sm k d2) {q1 q3:Bool} :
  Ev L 128 [.agg (rQ q1 q2 n1 m1 d1),.agg (rQ q3 q4 n2 m2 d2)] (.agg (eQ (qv n1 m1 d1*qv n2 m2 d2))):=by
 obtain ⟨a1,a2,a3,du,s1,s2,s3,s5⟩:=W4 N n1 false m1 d1 k D' ti zi;obtain ⟨b1,b2,b3,il,t1,t2,t3,t5⟩:=W4 N n2 false m2 d2 k D' pd zj;have l1:=s1.2;have l2:=s2.2;have l3:=t1.2;have l4:=t2.2;rw[s5,t5,Zi];have fi:=λ q q'=>ZA N a1 b1 q q' a2 b2 s1.1 t1.1 D'
 have Bv:=λ q q'=>ZA N false false q q' a3 b3 s2.1 t2.1 D'
 have g1:Sm (k+k) (dg (zv a1 a2*zv b1 b2).natAbs):=ZY s1 t1;have g4:Sm (k+k) (dg (zv false a3*zv false b3).natAbs):=ZY s2 t2;have hR:=λ q q'=>mQ N (decide (zv a1 a2*zv b1 b2<0)) (decide (zv false a3*zv false b3<0)) q q' _ _ (g1.le D') (g4.le D')
 rw[JE,JE,show zv false a3*zv false b3=((val a3*val b3:Nat):Int) by rw[II,II];simp,Dd]at hR;rw[show zv false a3*zv false b3=((val a3*val b3:Nat):Int) by rw[II,II];simp]at Bv;refine Ev.x N.cZ rfl rfl ?_;repeat' (first|apply iS|apply AQ|refine AU (du) ?_|refine AU (il) ?_|refine AU (fi _ _) ?_|refine AU (Bv _ _) ?_|refine AU (hR _ _) ?_)<;>conv=>whnf
 exact B1 rfl (GD _)
theorem Afr {a b:Int} {d e:Nat} (hd:d≠0) (he:e≠0):ah (a*e-b*d)=ah (mkRat a d-mkRat b e).num:=by
 have h:mkRat a d-mkRat b e=mkRat (a*e-b*d) (d*e):=by
  rw[Re,Rat.neg_mkRat,sQ hd he,cj,<-Oi]
 rw[h,Xi (Nat.mul_ne_zero hd he)]
theorem Aos (N:a8 L) (k:Nat) (hk:1<=k/\k<=68719476736) (n1 n2 q2 q4:Bool) (m1 d1 m2 d2:a_) (ti:Sm k m1) (zi:Sm k d1) (pd:Sm k m2) (zj:Sm k d2) {q1 q3:Bool} :
  Ev L 127 [.agg (rQ q1 q2 n1 m1 d1),.agg (rQ q3 q4 n2 m2 d2)] (.int .i64 (ah (qv n1 m1 d1-qv n2 m2 d2).num)):=by
 obtain ⟨a1,a2,a3,du,s1,s2,s3,s5⟩:=W4 N n1 false m1 d1 k D' ti zi;obtain ⟨b1,b2,b3,il,t1,t2,t3,t5⟩:=W4 N n2 false m2 d2 k D' pd zj;have l1:=s1.2;have l2:=s2.2;have l3:=t1.2;have l4:=t2.2;rw[s5,t5,<-Afr s3 t3,<-II b3,<-II a3];have fi:=λ q q'=>ZA N a1 false q q' a2 b3 s1.1 t2.1 D'
 have fr:=λ q q'=>ZA N b1 false q q' b2 a3 t1.1 s2.1 D'
 have g1:Sm (k+k) (dg (zv a1 a2*zv false b3).natAbs):=ZY s1 t2;have g2:Sm (k+k) (dg (zv b1 b2*zv false a3).natAbs):=ZY t1 s2;have hC:=λ q q'=>Aop N (decide (zv a1 a2*zv false b3<0)) (decide (zv b1 b2*zv false a3<0)) q q' _ _ (g1.le D') (g2.le D')
 rw[JE,JE]at hC;refine Ev.x N.cW rfl rfl ?_;repeat' (first|apply iS|apply AQ|refine AU (du) ?_|refine AU (il) ?_|refine AU (fi _ _) ?_|refine AU (fr _ _) ?_|refine AU (hC _ _) ?_)<;>conv=>whnf
 exact F2 rfl
theorem Bt.qe {k:Nat} {x:Rat} (h:Bt k x) (hk:k<2199023255552):Sm 68719476736 (dg x.num.natAbs)/\Sm 68719476736 (dg x.den):=h.dig D'
theorem Y6 (N:a8 L) {x y:Rat} {k l:Nat} (hx:Bt k x) (hy:Bt l y) (hk:k<2199023255552) (hl:l<2199023255552):Ev L 126 [.agg (eQ x),.agg (eQ y)] (.agg (eQ (x+y))):=by
 have:=yW (q1:=false) (q3:=false) N 68719476736 D' (decide (x.num<0)) (decide (y.num<0)) false false _ _ _ _ (hx.qe hk).1 (hx.qe hk).2 (hy.qe hl).1 (hy.qe hl).2
 rw[H6,H6]at this;exact this
theorem AnX (N:a8 L) {x y:Rat} {k l:Nat} (hx:Bt k x) (hy:Bt l y) (hk:k<2199023255552) (hl:l<2199023255552):Ev L 128 [.agg (eQ x),.agg (eQ y)] (.agg (eQ (x*y))):=by
 have:=yX (q1:=false) (q3:=false) N 68719476736 D' (decide (x.num<0)) (decide (y.num<0)) false false _ _ _ _ (hx.qe hk).1 (hx.qe hk).2 (hy.qe hl).1 (hy.qe hl).2
 rw[H6,H6]at this;exact this
theorem Aeh (N:a8 L) {x:Rat} {k:Nat} (hx:Bt k x) (hk:k<2199023255552):Ev L 123 [.agg (eQ x)] (.agg (eQ x)):=by
 have:=Ad8 (q0:=false) N (decide (x.num<0)) false _ _ ((hx.qe hk).1.le D') ((hx.qe hk).2.le D')
 rw[H6]at this;exact this
theorem yL (N:a8 L) {x y:Rat} {k l:Nat} (hx:Bt k x) (hy:Bt l y) (hk:k<2199023255552) (hl:l<2199023255552):Ev L 127 [.agg (eQ x),.agg (eQ y)] (.int .i64 (ah (x-y).num)):=by
 have:=Aos (q1:=false) (q3:=false) N 68719476736 D' (decide (x.num<0)) (decide (y.num<0)) false false _ _ _ _ (hx.qe hk).1 (hx.qe hk).2 (hy.qe hl).1 (hy.qe hl).2
 rw[H6,H6]at this;exact this
theorem Agv {x y:Rat}:ah (x-y).num=0↔x=y:=by
 have h:ah (x-y).num=0↔(x-y).num=0:=by unfold ah;split<;>(try split)<;>omega
 rw[h,Rat.num_eq_zero];constructor
 ·intro h;grind
 ·rintro rfl;exact Rat.sub_self
theorem mO (N:s9 L) {x:Rat} {k:Nat} (hx:Bt k x) (hk:k<2199023255552):Ev L 152 [.agg (eQ x)] (.agg (eQ (-x))):=by
 have hT:=Aeh N.toa8 hx hk;have hN:=λ q=>yU N.toa8 (decide (x.num<0)) q (dg x.num.natAbs) ((hx.qe hk).1.le D')
 rw[JE]at hN;refine Ev.x N.dA rfl rfl ?_;repeat' (first|apply AQ|refine AU (hT) ?_|refine AU (hN _) ?_)<;>conv=>whnf
 refine B1 ?_ (GD _);show _=AV.agg (rQ _ _ _ _ _);rw[ai,Wi]
theorem Aeg (N:s9 L) {x y:Rat} {k l:Nat} (hx:Bt k x) (hy:Bt l y) (hk:k<2199023255552) (hl:l<2199023255552):Ev L 153 [.agg (eQ x),.agg (eQ y)] (.agg (eQ (x-y))):=by
 have hn:Bt l (-y):=⟨by rw[ai,Ug];exact hy.1,by rw[Wi];exact hy.2⟩;have hN:=mO N hy hl;have hA:=Y6 N.toa8 hx hn hk hl;rw[<-Re]at hA;refine Ev.x N.U9 rfl rfl ?_;repeat' (first|apply AQ|refine AU (hN) ?_|refine AU (hA) ?_)<;>conv=>whnf
 exact B1 rfl (GD _)
theorem AqI {a c:Int} {b d:Nat} (hb:b≠0) (hd:d≠0) (hc:c≠0):mkRat a b/mkRat c d=Ef (a*d) (b*c):=by
 rw[Ab,<-Dd,<-Dd,Rat.inv_divInt,Rat.divInt_mul_divInt]
def NM (l:Z_):Nat->Nat
 | 0=>0
 | n+1=>if l.getD n 0=0 then NM l n else n+1
theorem mC (l:Z_) : ∀ n,NM l n<=n
 | 0=>na _
 | n+1=>by rw[NM];split;exact Nat.le_succ_of_le (mC l n);exact na _
def dP (l:Z_):Z_:=l.take (NM l l.length)
theorem Ahi (l:Z_):(dP l).length=NM l l.length:=by rw[dP,yc];exact Ve (mC _ _)
end Go.j4

namespace Go.j4
open F
theorem Ane {L:Lib} {f:Nat} {fn:AFn} {vs:d_} {own m8:BF} {r:AV} (hL:L f=some fn) (Um:OG fn.body=true) (h:LL L f vs own r m8):m8=own:=by
 obtain ⟨n,h⟩:=h;cases n with
 | zero=>simp [GR]at h
 | succ n =>
  rw[mJ]at h;simp only[hL]at h;split at h
  ·split at h
   ·rename_i st m4
    split at h
    ·simp only[Uf,tj]at h
     rw[<-h.2];exact QC n (by simp [ZH,Um]) m4
    ·cases h
   ·cases h
  ·cases h
attribute [local irreducible] AJ A5 BZ A0 FH B2 C6 C9 EO EC E0 HH D6 CT EJ E3 AM CZ BH pw EF DP FF FR F5 F7 E6 DQ GN
variable {L:Lib}
theorem AlG (N:c9 L) (l:a_) (s:Nat) (hD:CM l) (hl:l.length<=1099511627776):CZ L 65 [.row 5 0 1 0 l.length] [(0,.row 5 0 1 0 l.length)] [(5,s,.rw 1 (l.map BK))] (λ r _=>r = .row 5 0 1 0 (dg (val l)).length):=by
 have hlen : ∀ n,n<=l.length->l.take n=dg (val l)->n=(dg (val l)).length:=λ n h1 h2=>by
  rw[<-h2,yc];omega
 refine K5 1000 N.KS rfl rfl ?_;(repeat' (apply AQ<;>conv=>whnf))
 refine FP (λ n=>n) (λ(n:Nat)=>n<=l.length /\ ∀ i,n<=i->i<l.length->l[i]? = some 0) (λ n=>[(3,.int .i64 n)]) (λ_=>[]) l.length ⟨na _,λ i h1 h2=>D'⟩ ?_;intro n ⟨p1,p2⟩ ih;rcases n with _|n
 ·repeat' (first|(apply A7<;>intro hc<;>try omega)|apply AQ)<;>conv=>whnf
  refine M7 0 D' D' ?_;conv=>whnf
  refine ⟨rfl,_,rfl,?_⟩;rw[<-hlen 0 p1 (LD hD p1 p2 (Or.inl rfl))];rfl
 ·have e1:((n+1:Nat):Int)-1=n:=D'
  repeat' (first|(apply A7<;>intro hc<;>try omega)|(apply CB;omega)|(apply EP;omega)|(refine dZ G' ?_ (λ v hv hb => ?_);omega)|apply AQ)<;>conv=>whnf
  ·rw[e1]
   exact DB [] (ih n D' ⟨D',λ i h1 h2=>by
    by_cases h:i=n
    ·subst h
     rw[e1,Gb]at hv;rw[hv];congr 1;omega
    ·exact p2 i D' h2⟩)
  ·refine M7 (n+1) D' D' ?_
   (conv=>whnf)
   refine ⟨rfl,_,rfl,?_⟩;rw[e1,Gb]at hv;rw[<-hlen (n+1) p1 (LD hD p1 p2 (Or.inr ⟨_,hv,D'⟩))];rfl
theorem AlF (N:c9 L) (l:a_) (s t:Nat) (own:BF) (hD:CM l) (hl:l.length<=1099511627776) (hb:(own s).g8 t=some ⟨1,l.map BK⟩) (ht:t<(own s).j8) (zn:IX s=true):LL L 65 [.row s t 1 0 l.length] own (.row s t 1 0 (dg (val l)).length) own:=by
 have hs:LO (λ_ _=>(s,t)) own [(5,s,.rw 1 (l.map BK))]:=by
  have key : ∀ k u c,b7 [(5,s,C4.rw 1 (l.map BK))] k u=some c->k=5/\u=0/\c = .rw 1 (l.map BK):=λ k u c e=>by
   simp only[b7,c7]at e;cases hk:Wj k 5<;>simp only[hk,cond_true,cond_false]at e
   ·cases e
   ·cases u with
    | zero=>simp only[Uf]at e;exact ⟨Nat.eq_of_beq_eq_true hk,rfl,e.symm⟩
    | succ u=>cases e
  refine ⟨λ k s' c e => ?_,λ k u c e => ?_,λ k u c e=>ht,λ k u k' u' c c' e e' _ => ?_,λ_ _ _ _ _=>zn⟩
  ·simp only[c7]at e
   cases hk:Wj k 5<;>simp only[hk,cond_true,cond_false]at e
   ·cases e
   ·simp only[Uf,tj]at e;exact e.1
  ·obtain ⟨_,_,rfl⟩:=key k u c e
   exact hb
  ·obtain ⟨rfl,rfl,_⟩:=key k u c e
   obtain ⟨rfl,rfl,_⟩:=key k' u' c' e';exact ⟨rfl,rfl⟩
 have hw:=AlG N l s hD hl;unfold CZ at hw;obtain ⟨r,m8,σ',M',h1,h2,h3,rfl⟩:=hw _ own hs;have ho:=Ane N.KS (by decide +kernel) h1;subst ho;have h4:AV.row (σ' 5 0).1 (σ' 5 0).2 1 0 l.length=AV.row s t 1 0 l.length:=h3 0;simp only[AV.row.injEq]at h4;have h5:LL L 65 [.row s t 1 0 l.length] m8 (.row (σ' 5 0).1 (σ' 5 0).2 1 0 (dg (val l)).length) m8:=h1;rw[h4.1,h4.2.1]at h5;exact h5
theorem pQ (N:c9 L) {l:a_} {tm:Tm} {M:Mem} {K:AV->Mem->Prop} {key s len:Nat} (hD:CM l) (hl:l.length<=1099511627776) (hm:c7 M key=some (s,.rw 1 (l.map BK))) (hlen:len=l.length) (hk:K (.row key 0 1 0 (dg (val l)).length) M):CZ L 65 [.row key 0 1 0 len] tm M K:=by
 subst hlen;unfold CZ;intro σ own hs;have mu:=hs.site _ _ _ hm;have Uh:b7 M key 0=some (.rw 1 (l.map BK)):=by simp only[b7,hm]
 have hb:=hs.g8 _ _ _ Uh;have ht:=hs.old _ _ _ Uh;refine ⟨.row key 0 1 0 (dg (val l)).length,own,σ,M,?_,hs,λ_=>rfl,hk⟩;exact AlF N l (σ key 0).1 (σ key 0).2 own hD hl hb ht (hs.low _ _ _ (H5 hm) rfl)
end Go.j4

namespace Go.j4
open F
attribute [local irreducible] AJ A5 BZ A0 FH B2 C6 C9 EO EC E0 HH D6 CT EJ E3 AM CZ BH pw EF DP FF FR F5 F7 E6 DQ GN
variable {L:Lib}
abbrev xX (v:a_) (j m s xl:Nat):Tm:=[(102,AV.sl false (Od BK v)),(101,AV.row 71012 0 1 j (v.length+1)),
           (100,AV.int IntKind.i64 (↑j + ↑v.length+1)),(99,AV.int IntKind.i64 (↑j + ↑v.length)),
           (98,AV.int IntKind.i64 ↑v.length),(97,AV.int IntKind.i64 ↑j),(96,AV.int IntKind.i64 ↑j),
           (95,AV.row 71012 0 1 0 (xl+1)),(94,AV.int IntKind.i64 ↑j),(93,AV.row 28 0 1 0 m),
           (90,AV.bool true),(14,AV.int IntKind.i64 ↑j),(13,AV.sl false (Od BK v)),
           (12,AV.row 71012 0 1 0 (xl+1)),(11,AV.int IntKind.u64 ↑s),(7,AV.row 28 0 1 0 m),
           (6,AV.int IntKind.i64 ↑v.length)]
abbrev Am0:List It:=[It.lp KT.l2,It.g8 2,It.code
      (((DE.ops KT.Gu false).dr [9,10,84,85,86,87,118,119,120,121,122,123,124,125,126]
         []).seq
       (((DE.ops KT.Ov false).dr [127,128,129,130,131] []).seq
        ((((DE.ops KT.Qo false).dr [15,132,133] []).seq
           (DE.cond 134
            (((DE.ops KT.Qp false).dr [0,1,5,7,134,135,136] []).seq DE.ret)
            DE.skip)).seq
         (((DE.ops KT.Qq false).dr [134] []).seq
          ((((DE.ops KT.Qt false).dr [1] []).seq (DE.block 4 KT.l3.loop)).seq
           (((DE.ops KT.Ow false).dr
              [0,5,9,137,138,139,140,162,163,164,165,166,167,168,169] []).seq
            (((DE.ops KT.Qu false).dr [7,170,171,172] []).seq DE.ret)))))))]
section
variable {A W C w v:a_} {j m s xl q:Nat} {K:AV->Mem->Prop}
theorem xM (hA:A.length=j) (hW:W.length=v.length+1) (D2:CM W) (mo:CM v) (om:2<=v.length) (Eo:v.length<=549755813888) (gi:0<val v)
  (r1:q<4294967296) (r2:val W/val v<=q) (r3:q<=val W/val v+1)
  (hk : ∀ (W':a_) (o':c_) (q':Nat),W'.length=v.length+1->CM W'->val W'=val W%val v->q'=val W/val v->K (.int .u32 (q':Int)) [(71012,71012,.rw 1 ((A++W'++C).map BK)),(28,28,.rw 1 (w.map BK)),(71012,71012,.rw 1 o')])
  (pc : ∀ (W':a_) (o':c_) (q':Nat),W'.length=v.length+1->CM W'->val W'=val W%val v->q'=val W/val v->K (.int .u32 (q':Int)) [(71012,71012,.rw 1 ((A++W'++C).map BK)),(71012,71012,.rw 1 o'),(28,28,.rw 1 (w.map BK))]) :
  AJ L Am0 ([(86,.int .i64 0),(85,.int .i64 v.length),(84,.sl false (v.map BK)),(10,.int .u64 0),(9,.int .u64 0),(7,.int .u64 (q:Int)),(5,.int .i64 v.length),(0,AV.row 71012 0 1 j (v.length+1)),(1,AV.sl false (Od BK v))]++LH 1000 (xX v j m s xl))
   [(71012,71012,C4.rw 1 (Od BK (A++W++C))),(28,28,C4.rw 1 (Od BK w))] (Ab5 1000 KT (xX v j m s xl) K):=by
 refine pI (λ i _ _ _=>v.length-i) (λ(i:Nat) (Z:a_) (c b:Nat)=>i<=v.length/\Z.length=v.length+1/\CM Z/\c<4294967296/\b<=1/\Z.drop i=W.drop i/\val (Z.take i)+q*val (v.take i)=val (W.take i)+4294967296^i*(c+b)) (λ i Z c b=>[(86,.int .i64 i),(10,.int .u64 (b:Int)),(9,.int .u64 (c:Int))]) (λ i Z c b=>[(71012,71012,.rw 1 ((A++Z++C).map BK))]) [] [] 0 W 0 0 w_ ⟨D',hW,D2,D',D',rfl,by simp [val]⟩ ?_;intro i Z c b ⟨p1,p2,p3,p4,p5,p6,p7⟩ ih;by_cases hi:i<v.length
 ·obtain ⟨d,hd⟩:=X_ v i hi
  obtain ⟨u,hu⟩:=X_ Z i;have ik:=mo.at hd;have zs:=p3.at hu;obtain ⟨pr,Cq⟩ : ∃ pr,pr=q*d+c:=⟨_,rfl⟩;obtain ⟨m1,m2,m3⟩:=Afw r1 ik p4 Cq;have Hk:W[i]? = some u:=by
   have e1:(Z.drop i)[0]? = (W.drop i)[0]? := by rw[p6]
   simpa [hu] using e1.symm
  repeat' (first|(apply A7<;>intro hc<;>try omega)|(apply CB;omega)|(apply KY;omega)|(apply YT;omega)|apply JU|(apply E2;omega)|(refine CU G' ?_ rfl ?_;omega)|apply AQ)<;>conv=>whnf
  rw[<-Cq];refine Z8 i hu D' ?_;conv=>whnf
  repeat' (first|(apply CB;omega)|(apply qD;omega)|(apply E2;omega)|apply J7)<;>conv=>whnf
  obtain ⟨s1,s2⟩:=uQ zs (show pr%4294967296<4294967296 by omega) p5;have m4:=AqL p7 Cq rfl zs p5;generalize IH (IH u (pr%4294967296)) b=t at *;refine WQ i D' D' ?_;conv=>whnf
  repeat' (first|(apply B5;omega)|apply qC)<;>conv=>whnf
  refine EA [] w_ (ih (i+1) _ _ _ D' ⟨D',by simpa using p2,p3.set _ D',m1,s2,?_,?_⟩)
  ·rw[Vc D']
   have e1:(Z.drop i).drop 1=(W.drop i).drop 1:=by rw[p6]
   simpa using e1
  ·rw[KW D',HS hd,HS Hk,Hb]
   exact m4
 ·obtain rfl:i=v.length:=D'
  clear ih;obtain ⟨u,hu⟩:=X_ Z v.length;have zs:=p3.at hu;have Hk:W[v.length]? = some u:=by
   have e1:(Z.drop v.length)[0]? = (W.drop v.length)[0]? := by rw[p6]
   simpa [hu] using e1.symm
  rw[GH (na v.length)]at p7;obtain ⟨s1,s2⟩:=uQ zs p4 p5;have m4:=AqJ p7 rfl zs p4 p5;have eW:val W=val (W.take v.length)+4294967296^v.length*u:=by
   rw[<-HS Hk,GH D']
  rw[<-eW,<-KW (show v.length<Z.length by omega),GH W_]at m4;repeat' (first|(apply A7<;>intro hc<;>try omega)|(apply CB;omega)|apply AQ)<;>conv=>whnf
  refine Z8 v.length hu D' ?_;conv=>whnf
  repeat' (first|(apply CB;omega)|(apply qD;omega)|(apply E2;omega)|apply J7)<;>conv=>whnf
  generalize IH (IH u c) b=t at *;refine WQ v.length D' D' ?_;conv=>whnf
  repeat' (first|(apply A7<;>intro hc<;>try omega)|apply qC|(apply IA;omega)|apply BW)<;>conv=>whnf
  ·have Kh:t/9223372036854775808=0:=D'
   rw[Kh,Oc,xc]at m4;obtain ⟨y1,y2⟩:=Ac9 gi r2 m4;exact ⟨rfl,_,rfl,hk _ _ _ (by simpa using p2) (p3.set _ D') y2 y1⟩
  ·have Wl:t/9223372036854775808=1:=D'
   rw[Wl,Ui]at m4;have Sa:CM (Z.set v.length (t%4294967296)):=p3.set _ D';have Fw:(Z.set v.length (t%4294967296)).length=v.length+1:=by simpa using p2
   clear p7 p6 p4 p5 s1 s2 eW Wl hu Hk zs p1 p2 p3;generalize Z.set v.length (t%4294967296)=X at *;have Pq:=JD Sa;rw[Fw,Hb]at Pq;obtain ⟨y1,y2,y3⟩:=Ac8 gi r3 Pq m4;have hRV:val W%val v<val v:=Qc _ gi;have Lo:=JD mo;obtain ⟨xw,ka⟩:=X_ X v.length;have eX:val X=val (X.take v.length)+4294967296^v.length*xw:=by
    rw[<-HS ka,GH D']
   refine LK (λ i _ _=>v.length-i) (λ(i:Nat) (Z:a_) (c:Nat)=>i<=v.length/\Z.length=v.length+1/\CM Z/\c<=1/\Z.drop i=X.drop i/\val (Z.take i)+4294967296^i*c=val (X.take i)+val (v.take i)) (λ i Z c=>[(139,.int .i64 i),(9,.int .u64 (c:Int))]) (λ i Z c=>[(71012,71012,.rw 1 ((A++Z++C).map BK))]) 0 X 0 ⟨D',Fw,Sa,D',rfl,by simp [val]⟩ ?_;intro i Z c ⟨p1,p2,p3,p4,p6,p7⟩ ih;by_cases hi:i<v.length
   ·obtain ⟨d,hd⟩:=X_ v i hi
    obtain ⟨u,hu⟩:=X_ Z i;have ik:=mo.at hd;have zs:=p3.at hu;have wo:X[i]? = some u:=by
     have e1:(Z.drop i)[0]? = (X.drop i)[0]? := by rw[p6]
     simpa [hu] using e1.symm
    have tz:=Acg (d:=d) (w:=u) p7 rfl;repeat' (first|(apply A7<;>intro hc<;>try omega)|(apply CB;omega)|(refine CU G' ?_ rfl ?_;omega)|apply AQ)<;>conv=>whnf
    refine Z8 i hu D' ?_;conv=>whnf
    repeat' (first|(apply CB;omega)|(apply KY;omega)|(apply E2;omega)|apply J7)<;>conv=>whnf
    generalize ht2:u+d+c=t2 at *;refine WQ i D' D' ?_;conv=>whnf
    repeat' (first|(apply B5;omega)|apply JU)<;>conv=>whnf
    refine EA [] w_ (ih (i+1) _ _ D' ⟨D',by simpa using p2,p3.set _ D',D',?_,?_⟩)
    ·rw[Vc D']
     have e1:(Z.drop i).drop 1=(X.drop i).drop 1:=by rw[p6]
     simpa using e1
    ·rw[KW D',HS hd,HS wo,Hb]
     exact tz
   ·obtain rfl:i=v.length:=D'
    clear ih;obtain ⟨u,hu⟩:=X_ Z v.length;have zs:=p3.at hu;have wo:X[v.length]? = some u:=by
     have e1:(Z.drop v.length)[0]? = (X.drop v.length)[0]? := by rw[p6]
     simpa [hu] using e1.symm
    rw[wo]at ka;obtain rfl:u=xw:=by simpa using ka
    rw[GH (na v.length)]at p7;have Sc:=JD (p3.take v.length);rw[yc,Ve D']at Sc;rw[eX]at y3;have ix:=Acf p7 y3 D' Sc;rw[<-KW (show v.length<Z.length by omega),GH W_]at ix;repeat' (first|(apply A7<;>intro hc<;>try omega)|(apply CB;omega)|apply AQ)<;>conv=>whnf
    refine Z8 v.length hu D' ?_;conv=>whnf
    repeat' (first|(apply CB;omega)|apply AbZ|(apply IA;omega))<;>conv=>whnf
    refine WQ v.length D' D' ?_;conv=>whnf
    repeat' (first|(apply QI;omega;omega)|(apply IA;omega))<;>conv=>whnf
    exact ⟨rfl,_,rfl,pc _ _ _ (by simpa using p2) (p3.set _ D') ix y1⟩
theorem AlZ (N:c9 L) (hA:A.length=j) (hW:W.length=v.length+1) (D2:CM W) (mo:CM v) (om:2<=v.length) (Eo:v.length<=549755813888) (gi:0<val v)
  (n2:4294967296^(v.length-1)*2147483648<=val v) (g2:val W<4294967296*val v)
  (hk : ∀ (W':a_) (o':c_) (q':Nat),W'.length=v.length+1->CM W'->val W'=val W%val v->q'=val W/val v->K (.int .u32 (q':Int)) [(71012,71012,.rw 1 ((A++W'++C).map BK)),(28,28,.rw 1 (w.map BK)),(71012,71012,.rw 1 o')])
  (pc : ∀ (W':a_) (o':c_) (q':Nat),W'.length=v.length+1->CM W'->val W'=val W%val v->q'=val W/val v->K (.int .u32 (q':Int)) [(71012,71012,.rw 1 ((A++W'++C).map BK)),(71012,71012,.rw 1 o'),(28,28,.rw 1 (w.map BK))]) :
  CZ L 73 [AV.row 71012 0 1 j (v.length+1),AV.sl false (Od BK v)] (xX v j m s xl) [(71012,71012,C4.rw 1 (Od BK (A++W++C))),(28,28,C4.rw 1 (Od BK w))] K:=by
 obtain ⟨UL,a1,a2⟩:=vA D2 (n:=v.length+1) D' D';obtain ⟨VL,b5,b6⟩:=Ahn mo (n:=v.length) om D';obtain ⟨u0,w0⟩:=X_ W v.length;obtain ⟨u1,w1⟩:=X_ W (v.length-1);obtain ⟨u2,w2⟩:=X_ W (v.length-2);obtain ⟨f1,x1⟩:=X_ v (v.length-1);obtain ⟨f2,x2⟩:=X_ v (v.length-2);rw[show v.length+1-3=v.length-2 by omega,show v.length+1-2=v.length-1 by omega,show v.length+1-1=v.length by omega,LQ w0,LQ w1,LQ w2]at a2;rw[show v.length+1-3=v.length-2 by omega]at a1;rw[LQ x1,LQ x2]at b6;have Dn:=Ahf mo (k:=v.length-1) D' n2 x1;have k0:=D2.at w0;have k1:=D2.at w1;have k2:=D2.at w2;have k3:=mo.at x1;have k4:=mo.at x2;have z1:v[((v.length:Int)-1).toNat]? = some f1:=by rw[show ((v.length:Int)-1).toNat=v.length-1 by omega];exact x1
 have z2:v[((v.length:Int)-2).toNat]? = some f2:=by rw[show ((v.length:Int)-2).toNat=v.length-2 by omega];exact x2
 refine K5 1000 N.KT rfl rfl ?_;repeat' (first|(apply CB;omega)|apply BW|apply AQ)<;>conv=>whnf
 refine Z8 v.length w0 D' ?_;conv=>whnf
 repeat' (first|(apply CB;omega)|(apply EP;omega)|(apply WP;omega)|(apply E2;omega))<;>conv=>whnf
 refine Z8 (v.length-1) w1 D' ?_;conv=>whnf
 refine AbU D' ?_;conv=>whnf
 refine YU D' ?_;conv=>whnf
 generalize Au3:u0*4294967296+u1=top at *;have Gg:top<=18446744073709551615:=D'
 have hU:val W=UL+4294967296^(v.length-2)*(u2+4294967296*top):=by rw[a2,show u1+4294967296*u0=top by omega]
 repeat' (first|(apply EP;omega)|(apply lJ;omega)|(apply qB;omega;omega)|(apply E2;omega)|(refine CU G' ?_ rfl ?_;omega))<;>conv=>whnf
 refine pH (λ q _=>q) (λ(q r:Nat)=>Gs (val W) (val v) f1 f2 u2 top q r) (λ q r=>[(7,.int .u64 (q:Int)),(8,.int .u64 (r:Int))]) (λ_ _=>[]) [] [] (top/f1) (top%f1) w_ (Gs.start hU b6 a1 k2 gi D' k3) ?_;intro q r g zw;have hqt:q<=top:=by
  have h3:=g.hq;have h4:q*1<=q*f1:=zc q D';omega
 have hr:=g.hr;have vi:=g.ge;by_cases hb:4294967296<=q
 ·obtain ⟨y1,y2,y3⟩:=g.next hU b6 a1 gi g2 (Or.inl hb)
  repeat' (first|(apply A7<;>intro hc<;>try omega)|(apply EP;omega)|(apply KY;omega)|(apply QI;omega;omega)|(apply E2;omega)|apply BW|(refine CU G' ?_ rfl ?_;omega)|apply AQ)<;>conv=>whnf
  ·obtain ⟨t1,t2⟩:=jW hU b6 b5 Dn k4 g2 y2 (Or.inr D')
   exact EA [] w_ (xM (w:=w) (C:=C) hA hW D2 mo om Eo gi t1 y3 t2 hk pc)
  ·exact EA [] w_ (zw (q-1) (r+f1) D' ⟨y2,D',y3⟩)
 ·have hmq:=kE (show q<4294967296 by omega) k4
  by_cases ag:r*4294967296+u2<q*f2
  ·obtain ⟨y1,y2,y3⟩:=g.next hU b6 a1 gi g2 (Or.inr ag)
   repeat' (first|(apply A7<;>intro hc<;>try omega)|(apply CB;omega)|(apply EP;omega)|(apply YT;omega)|(apply WP;omega)|(apply E2;omega)|(refine CU G' ?_ rfl ?_;omega)|apply AQ)<;>conv=>whnf
   refine Z8 (v.length-2) w2 D' ?_;conv=>whnf
   repeat' (first|(apply A7<;>intro hc<;>try omega)|(apply EP;omega)|(apply KY;omega)|(apply YU;omega)|(apply QI;omega;omega)|(apply E2;omega)|apply BW|(refine CU G' ?_ rfl ?_;omega))<;>conv=>whnf
   ·obtain ⟨t1,t2⟩:=jW hU b6 b5 Dn k4 g2 y2 (Or.inr D')
    exact EA [] w_ (xM (w:=w) (C:=C) hA hW D2 mo om Eo gi t1 y3 t2 hk pc)
   ·exact EA [] w_ (zw (q-1) (r+f1) D' ⟨y2,D',y3⟩)
  ·obtain ⟨t1,t2⟩:=jW hU b6 b5 Dn k4 g2 g.hq (Or.inl ⟨D',D'⟩)
   repeat' (first|(apply A7<;>intro hc<;>try omega)|(apply CB;omega)|(apply EP;omega)|(apply YT;omega)|(apply WP;omega)|(apply E2;omega)|(refine CU G' ?_ rfl ?_;omega)|apply AQ)<;>conv=>whnf
   refine Z8 (v.length-2) w2 D' ?_;conv=>whnf
   repeat' (first|(apply A7<;>intro hc<;>try omega)|(apply YU;omega)|(apply E2;omega)|apply BW)<;>conv=>whnf
   exact EA [] w_ (xM (w:=w) (C:=C) hA hW D2 mo om Eo gi t1 vi t2 hk pc)
end
end Go.j4

namespace Go.j4
open F
attribute [local irreducible] AJ A5 BZ A0 FH B2 C6 C9 EO EC E0 HH D6 CT EJ E3 AM CZ BH pw EF DP FF FR F5 F7 E6 DQ GN
variable {L:Lib}
theorem Asf {V R y d t Q:Nat} (h:Q*y+R=V) (ht:t=R*4294967296+d):(t/y+4294967296*Q)*y+t%y=d+4294967296*V:=by
 have:=Ce t y
 rw[<-h,ph];have e:t/y*y=y*(t/y):=oc _ _;grind
theorem mA (a b:a_):CI (.e9 [.sl false (a.map BK),.sl false (b.map BK)]):=by
 simp only[CI,ES,and_true,true_and];exact ⟨EW a,EW b⟩
set_option maxHeartbeats 4000000 in
theorem yQ (N:c9 L) (X Y:Nat) (q1 q2:Bool) (hY:Y≠0) (lx:(dg X).length<=549755813888) (ly:(dg Y).length<=549755813888):Ev L 74 [.sl q1 ((dg X).map BK),.sl q2 ((dg Y).map BK)] (.e9 [.sl false ((dg (X/Y)).map BK),.sl false ((dg (X%Y)).map BK)]):=by
 have n0:=λ q q'=>Y8 N (dg X) (dg Y) q q' (HM X) (HM Y) D' D'
 rw[EH,EH]at n0;have d1:=HM X;have d2:=HM Y;have v1:=EH X;have v2:=EH Y;have hy1:=mI hY;refine Ev.x N.SL rfl rfl ?_;by_cases n7:X<Y
 ·have hn:GE X Y = -1:=(OM D').symm
  rw[hn]at n0;repeat' (first|(apply A7<;>intro hc<;>try omega)|apply AQ|refine AU (n0 _ _) ?_|refine AU (AdH N (dg X) _ D') ?_)<;>conv=>whnf
  refine B1 ?_ (mA _ _);rw[Hc n7,Cd n7,I6];rfl
 have vi:0<=GE X Y:=by unfold GE;split<;>(try split)<;>omega
 have Dv:=aK (show Y<=X by omega);generalize GE X Y=cm at *;by_cases h1:(dg Y).length=1
 ·-- one digit
  obtain ⟨y0,Ap⟩ : ∃ y0,dg Y=[y0]:=Lh.1 h1;have Gi:Y=y0:=by rw[<-v2,Ap];simp [val]
  subst Gi;have Es:Y<4294967296:=d2 Y (by rw[Ap];simp);have hyg:(dg Y)[0]? = some Y:=by rw[Ap];rfl
  clear Ap v2;generalize dg Y=y at *;generalize hx:dg X=x at *;repeat' (first|(apply A7<;>intro hc<;>try omega)|(apply B5;omega)|(apply EP;omega)|apply BW|apply AQ|refine AU (n0 _ _) ?_)<;>conv=>whnf
  refine I2 (enc:=BK) 0 x.length rfl D' D' ?_;conv=>whnf
  repeat' (first|(apply A7<;>intro hc<;>try omega)|(apply EP;omega)|apply BW)<;>conv=>whnf
  refine LK (λ n _ _=>n) (λ(n:Nat) (o:a_) (r:Nat)=>n<=x.length/\o.length=x.length/\CM o/\r<Y/\val (o.drop n)*Y+r=val (x.drop n)) (λ n o r=>[(8,.int .u64 (r:Int)),(9,.int .i64 ((n:Int)-1))]) (λ n o r=>[(28,28,.rw 1 (o.map BK))]) x.length (Wa x.length 0) 0 ⟨D',p_,QK _,D',by rw[Sb (na _),Sb p_];simp [val]⟩ ?_;intro n o r ⟨p1,p2,p3,p4,p5⟩ ih;rcases n with _|n
  ·rw[Wb,Wb]at p5
   have hq:X/Y=val o/\X%Y=r:=by
    rw[<-v1,<-p5];have e1:(val o*Y+r)/Y=val o:=by
     rw[oc,pg D',Hc p4,xc]
    have e2:(val o*Y+r)%Y=r:=by
     rw[oc,vg,Cd p4]
    exact ⟨e1,e2⟩
   rw[hq.1,hq.2,<-p2];clear ih hq p5;have rf:=IQ p3;have du:CM [r]:=NF D';have lv:=IQ du;have Wo:val [r]=r:=by simp [val]
   have hl3:[r].length=1:=rfl;repeat' (first|(apply A7<;>intro hc<;>try omega)|(apply IA;omega)|apply AQ|refine pQ N G' D' rfl (by first|rfl|omega|assumption) ?_)<;>conv=>whnf
   refine NK (enc:=BK) (λ_=>rfl) D' ?_;conv=>whnf
   refine NK (enc:=BK) (l:=[r]) (λ_=>rfl) D' ?_;conv=>whnf
   refine B1 ?_ (mA _ _);rw[Wb,Wb,oX p3,oX du,Wo]
  ·have e1:((n+1:Nat):Int)-1=n:=D'
   rw[e1];obtain ⟨d,hd⟩:=X_ x n;have ik:=d1.at hd;have hYb:Y<4294967296:=Es;have hR:r*4294967296+d<Y*4294967296:=D'
   have mr:(r*4294967296+d)/Y<4294967296:=(Ud D').2 D';repeat' (first|(apply A7<;>intro hc<;>try omega)|(apply CB;omega)|(apply WP;omega)|(apply YU;omega)|(apply qB;omega;omega)|(apply E2;omega)|(apply IA;omega)|(refine CU G' ?_ rfl ?_;omega)|apply AQ)<;>conv=>whnf
   obtain ⟨t,ht⟩ : ∃ t,t=r*4294967296+d:=⟨_,rfl⟩;rw[<-ht]at hR mr ⊢;have hm:t%Y<Y:=Qc _ D';have m4:=Asf p5 ht;rw[<-M5 hd]at m4;clear ht;skip
   refine JM D' ?_;conv=>whnf
   repeat' (first|(apply EP;omega)|(apply lJ;omega)|(apply E2;omega)|(refine CU G' ?_ rfl ?_;omega))<;>conv=>whnf
   generalize t/Y=tq at *;generalize t%Y=tr at *;refine EA [] w_ (ih n _ _ D' ⟨D',by simpa using p2,p3.set _ D',hm,?_⟩);rw[M5 (l:=o.set n tq) (d:=tq) (by rw[ye D']),Vc D'];exact m4
 ·-- two digits or more
  have vk:2<=(dg Y).length:=D'
  obtain ⟨yt,Iq,Ir⟩:=xL hY;have Eu:=d2.at Iq;obtain ⟨b1,b2,b3,b4⟩:=Zd Ir Eu;have Th:=AdJ N yt Eu;generalize hs:32-u7 yt=s at *;have js:s<=31:=D'
  generalize dg Y=y at *;generalize hx:dg X=x at *;have e1:((y.length:Int)-1).toNat=y.length-1:=D'
  rw[<-e1]at Iq;obtain ⟨rv,Qh,v,hV,qm,AuP⟩:=An5 N y q2 s y.length d2 js D' D';subst AuP;repeat' (first|(apply A7<;>intro hc<;>try omega)|(apply B5;omega)|(apply EP;omega)|apply BW|apply AQ|refine AU (n0 _ _) ?_)<;>conv=>whnf
  refine I2 (enc:=BK) 0 (x.length-y.length+1) rfl D' D' ?_;conv=>whnf
  repeat' (first|(apply A7<;>intro hc<;>try omega)|(apply B5;omega)|(apply EP;omega)|(apply E2;omega)|apply BW|(refine CU G' ?_ rfl ?_;omega)|refine AU (Th) ?_)<;>conv=>whnf
  refine K5 1000 N.SN rfl rfl ?_;(repeat' (apply AQ<;>conv=>whnf))
  refine I2 (enc:=BK) 0 (x.length+1) rfl D' D' ?_;conv=>whnf
  (repeat' (apply BW<;>conv=>whnf))
  have Cr:=nU (s:=s) D';refine LK (λ i _ _=>x.length-i) (λ(i:Nat) (o:a_) (lo:Nat)=>i<=x.length/\o.length=x.length+1/\CM o/\lo<2^s/\val (o.take i)+4294967296^i*lo=val (x.take i)*2^s) (λ i o lo=>[(8,.int .u32 (lo:Int)),(15,.int .i64 i)]) (λ i o lo=>[(71012,71012,.rw 1 (o.map BK))]) 0 (Wa (x.length+1) 0) 0 ⟨D',p_,QK _,Nc s,by simp [val]⟩ ?_;intro i o lo ⟨p1,p2,p3,p4,p5⟩ ih;by_cases hi:i<x.length
  ·obtain ⟨d,hd⟩:=X_ x i hi
   have ik:=d1.at hd;obtain ⟨f1,f2,f3,f4⟩:=gZ (s:=s) ik D';repeat' (first|(apply A7<;>intro hc<;>try omega)|(refine CU G' ?_ rfl ?_;omega)|apply AQ)<;>conv=>whnf
   refine Ab2 D' ?_;conv=>whnf
   skip
   refine vS s f1 p4 D' ?_;conv=>whnf
   repeat' (first|(apply CB;omega)|fail)<;>conv=>whnf
   refine JM D' ?_;conv=>whnf
   repeat' (first|(apply E2;omega)|fail)<;>conv=>whnf
   refine YW D' f4 ?_;conv=>whnf
   repeat' (first|(apply B5;omega)|apply JU|(apply IA;omega))<;>conv=>whnf
   rw[<-gY];refine EA [] w_ (ih (i+1) _ _ D' ⟨D',by simpa using p2,p3.set _ D',f2,?_⟩);rw[KW D',HS hd,Hb];exact Aff p5
  obtain rfl:i=x.length:=D'
  clear ih;repeat' (first|(apply A7<;>intro hc<;>try omega)|(apply CB;omega)|apply BW|apply AQ)<;>conv=>whnf
  refine JM D' ?_;conv=>whnf
  skip
  have hU:=Afe p3 D' p2 p5;have Ft:(o.set x.length lo).length=x.length+1:=by simpa using p2
  clear p3 p4 p5 p2;generalize o.set x.length lo=u at *;refine ⟨rfl,_,rfl,?_⟩;conv=>whnf
  repeat' (first|(apply EP;omega)|apply BW|refine AU (Qh) ?_)<;>conv=>whnf
  have Ave:y[y.length-1]? = some yt:=by rw[<-e1];exact Iq
  obtain ⟨n1,n2⟩:=Yv d2 Ave D' js b3 b4;have Vv:val v=Y*2^s:=by rw[<-v2];exact hV.2.2 (by rw[qm];exact n1)
  have Vu:val u=X*2^s:=by
   rw[<-v1];refine hU.2.2 ?_;have h3:=JD d1;rw[Ft,Hb];exact cd (vf h3 (Nc s)) (zc _ Cr)
  have mo:=hV.1;have Vs:=hU.1;have Lp:=JD mo;rw[v2,<-Vv]at n2;rw[<-qm]at n2;clear hV hU n0 Qh Th;have om:2<=v.length:=D'
  have hvx:v.length<=x.length:=D'
  have Eo:v.length<=549755813888:=D'
  have hxL:x.length<=549755813888:=D'
  have hX:X<4294967296^x.length:=by rw[<-v1];exact JD d1
  rw[<-qm];generalize hm:x.length-v.length+1=m at *;have gi:0<val v:=by
   have:=Af3 (v.length-1)
   omega
  have Bm:val (u.drop m)<val v:=by
   have h1:=RT u m D';rw[Vu]at h1;have h2:X*2^s<4294967296^x.length*2147483648:=cd (vf hX (Nc s)) (zc _ (Uc D' js));have h3:4294967296^x.length=4294967296^m*4294967296^(v.length-1):=by rw[<-yd];congr 1;omega
   rw[h3,Hd]at h2;refine cd ?_ n2;refine Nat.lt_of_mul_lt_mul_left (a:=4294967296^m) ?_;omega
  have e2:(x.length:Int)-v.length=((m:Nat):Int)-1:=D'
  rw[e2];refine LK (λ n _ _=>n) (λ(n:Nat) (o w:a_)=>n<=m/\o.length=x.length+1/\CM o/\w.length=m/\CM w/\val (o.drop n)<val v/\X*2^s=val (o.take n)+4294967296^n*(val (w.drop n)*val v+val (o.drop n))) (λ n o w=>[(14,.int .i64 ((n:Int)-1))]) (λ n o w=>[(71012,71012,.rw 1 (o.map BK)),(28,28,.rw 1 (w.map BK))]) m u (Wa m 0) ⟨D',Ft,Vs,p_,QK _,Bm,by rw[<-Vu,Sb (show (Wa m 0).length<=m by simp),QG,Cf,oe];exact RT u m D'⟩ ?_;intro n o w ⟨p1,p2,p3,p4,p5,p6,p7⟩ ih;rcases n with _|j
  ·clear ih
   rw[Wb]at p6;rw[vj,Wb,Wb,QG,oe,Lg,Tf]at p7;have Ad:val o=val (o.take v.length):=by
    have h1:=iL o v.length;rcases Vd (val (o.drop v.length)) with h2|h2
    ·rw[h2,Oc,xc]at h1;exact h1
    ·have h3:4294967296^v.length*1<=4294967296^v.length*val (o.drop v.length):=zc _ h2
     omega
   have Fv:X/Y=val w/\X%Y=val o/2^s:=by
    obtain ⟨z1,z2⟩:=Adb (X:=X) (Y:=Y) (Nc s);rw[<-z1,<-z2,<-Vv,p7];have e1:(val w*val v+val o)/val v=val w:=by
     rw[oc,pg gi,Hc p6,xc]
    have e2:(val w*val v+val o)%val v=val o:=by
     rw[oc,vg,Cd p6]
    rw[e1,e2];exact ⟨rfl,rfl⟩
   rw[Fv.1,Fv.2];have rf:=IQ p5;obtain ⟨ro,Um,o2,k1,k2,k3,k4⟩:=An6 N (o.take v.length) true s (p3.take _) js V_;subst k4;rw[Ad,<-k3];have lv:=IQ k1;rw[yc]at k2;clear p7 Fv Bm;repeat' (first|(apply A7<;>intro hc<;>try omega)|apply AQ|refine pQ N G' D' rfl (by first|rfl|omega|assumption) ?_)<;>conv=>whnf
   refine M7 v.length rfl D' ?_;conv=>whnf
   refine NK (enc:=BK) (λ_=>rfl) D' ?_;conv=>whnf
   rw[Wb,Ke];repeat' (first|refine AU (Um) ?_|refine RW (VK N o2 _ k1 D') ?_)<;>conv=>whnf
   refine NK (enc:=BK) (λ_=>rfl) D' ?_;conv=>whnf
   refine B1 ?_ (mA _ _);rw[Wb,oX p5]
  ·have e3:((j+1:Nat):Int)-1=j:=D'
   rw[e3];have e4:(v.length:Int).toNat=v.length:=D'
   obtain ⟨A,W,C,hA,hW,rfl⟩:=Adv o j (v.length+1) D';obtain ⟨g1,g2,g3⟩:=Adx hA hW p3 p6 Lp;obtain ⟨D1,D2,D3⟩:=Ac7 p3;have Af:val W/val v<4294967296:=(Ud gi).2 g2;have hWV:val W=val W/val v*val v+val W%val v:=by rw[oc];exact (Ce _ _).symm
   have Lq:val W%val v<val v:=Qc _ gi;have Ln:X*2^s=val A+4294967296^j*val W+4294967296^j*4294967296*(val (w.drop (j+1))*val v):=by
    rw[p7,fc,<-g3,Hb];omega
   have Bf:=Adw Ln hWV;have vt : ∀ q',q'=val W/val v->val ((w.set j q').drop j)=val W/val v+4294967296*val (w.drop (j+1)):=λ q' h=>by
    rw[M5 (l:=w.set j q') (d:=q') (by rw[ye D']),Vc D',h]
   have hlen : ∀ W':a_,W'.length=v.length+1->(A++W'++C).length=x.length+1:=λ W' h=>by
    rw[<-p2];simp [h,hW]
   repeat' (first|(apply A7<;>intro hc<;>try omega)|(apply B5;omega)|(apply AiI;omega)|apply AQ)<;>conv=>whnf
   rw[show ((j:Int)+v.length+1).toNat-(j:Int).toNat=v.length+1 by omega,show 0+(j:Int).toNat=j by omega];refine AlZ N hA hW D2 mo om Eo gi n2 g2 (λ W' o' q' z1 z2 z3 z4 => ?_) (λ W' o' q' z1 z2 z3 z4 => ?_)
   ·(conv=>whnf)
    repeat' (first|(apply CB;omega)|fail)<;>conv=>whnf
    refine JM D' ?_;conv=>whnf
    repeat' (first|(apply EP;omega)|fail)<;>conv=>whnf
    obtain ⟨t1,t2⟩:=xY (A:=A) (W:=W') (C:=C) (j:=j) hA g1;refine EA [] w_ (ih j (A++W'++C) (w.set j q') D' ⟨D',hlen W' z1,(D1.append z2).append D3,by simpa using p4,p5.set _ D',D',?_⟩);rw[t1,t2,vt q' z4,z3];exact Bf
   ·(conv=>whnf)
    repeat' (first|(apply CB;omega)|fail)<;>conv=>whnf
    refine JM D' ?_;conv=>whnf
    repeat' (first|(apply EP;omega)|fail)<;>conv=>whnf
    obtain ⟨t1,t2⟩:=xY (A:=A) (W:=W') (C:=C) (j:=j) hA g1;refine EA [] w_ (ih j (A++W'++C) (w.set j q') D' ⟨D',hlen W' z1,(D1.append z2).append D3,by simpa using p4,p5.set _ D',D',?_⟩);rw[t1,t2,vt q' z4,z3];exact Bf
end Go.j4

namespace Go.j4
open F
attribute [local irreducible] AJ A5 BZ A0 FH B2 C6 C9 EO EC E0 HH D6 CT EJ E3 AM CZ BH pw EF DP FF FR F5 F7 E6 DQ GN
variable {L:Lib}
theorem Ab3 {k':IntKind} {a:Int} {K:AV->Prop} (hk:K (.int .i64 (a/4294967296))):A0 .shr .i64 a k' 32 K:=by
 refine Aje D' ?_;have:pw 32=4294967296:=by decide +kernel
 rw[this];exact hk
theorem AbT {t:Int} {K:Int->Prop} (hk:K (mB t:Int)):CO .u32 t K:=by
 refine ⟨?_⟩;rw[IntKind.wrap_u32,<-wN];exact hk
section
variable {k':IntKind} {a b:Nat} {K:AV->Prop}
theorem Ajd {i:Nat} (hi:i<2) (ha:a<4294967296) (hk:K (.int .u64 ((a*4294967296^i:Nat):Int))):A0 .shl .u64 (a:Int) k' (32*(i:Int)) K:=by
 rcases i with _|_|i
 ·exact YW (s:=0) D' D' hk
 ·exact YW (s:=32) D' D' hk
 ·omega
end
theorem AeQ {x y M N:Int} (hx : -M<=x/\x<=M) (hy : -N<=y/\y<=N) : -(M*N)<=x*y/\x*y<=M*N:=by
 have h1:x.natAbs<=M.natAbs:=D'
 have h2:y.natAbs<=N.natAbs:=D'
 have h3:=Wg h1 h2;rw[<-Bd,<-Bd]at h3;have h4:0<=M*N:=Int.mul_nonneg D' D';omega
theorem yN (N:c9 L) (a b:a_) (q1 q2:Bool) (hA:CM a) (hB:CM b) (la:a.length<=549755813888) (lb:b.length<=549755813888) (h0:val b≠0) :
  Ev L 75 [.sl q1 (a.map BK),.sl q2 (b.map BK)] (.e9 [.sl false ((dg (val a/val b)).map BK),.sl false ((dg (val a%val b)).map BK),.int .i64 0]):=by
 have l1:=IQ hA;have l2:=IQ hB;have hp:=mI h0;refine Ev.x N.bJ rfl rfl ?_;repeat' (first|(apply A7<;>intro hc<;>try omega)|apply BW|apply AQ|refine RW (VK N a _ hA D') ?_|refine RW (VK N b _ hB D') ?_|refine AU (yQ N _ _ _ _ h0 D' D') ?_)<;>conv=>whnf
 refine B1 rfl ?_;simp only[CI,ES,and_true,true_and];exact ⟨EW _,EW _⟩
theorem AdY (N:c9 L) (V:Nat) (q:Bool) (hl:(dg V).length<=2):Ev L 76 [.sl q ((dg V).map BK)] (.int .u64 (V:Int)):=by
 have hV:=WZ.1 hl;have hD:=HM V;have hv:=EH V;refine Ev.x N.XJ rfl rfl ?_;generalize dg V=l at *;repeat' (first|apply BW|apply AQ)<;>conv=>whnf
 refine LJ (λ i _=>l.length-i) (λ(i:Nat) (a:Nat)=>i<=l.length/\a=val (l.take i)) (λ i a=>[(3,.int .u64 (a:Int)),(8,.int .i64 i)]) (λ_ _=>[]) 0 0 ⟨D',rfl⟩ ?_;intro i a ⟨p1,p2⟩ ih;by_cases hi:i<l.length
 ·obtain ⟨d,hd⟩:=X_ l i hi
  have ik:=hD.at hd;have h1:=HS hd;have h2:=JD (hD.take i);have h3:=JD (hD.take (i+1));rw[yc,Ve D']at h2 h3;have h4:4294967296^(i+1)<=4294967296^2:=Uc D' D';repeat' (first|(apply A7<;>intro hc<;>try omega)|(apply LN;omega)|(apply E2;omega)|(refine CU G' ?_ rfl ?_;omega)|apply AQ)<;>conv=>whnf
  refine Ajd D' ik ?_;conv=>whnf
  rw[oc d];refine qA (32*i) (by rw[Ee];exact Nat.mul_mod_right _ _) (by rw[Ee,p2];exact h2) D' ?_;conv=>whnf
  repeat' (first|(apply B5;omega)|fail)<;>conv=>whnf
  exact EA [] w_ (ih (i+1) _ D' ⟨D',by rw[h1,p2]⟩)
 ·obtain rfl:i=l.length:=D'
  clear ih;repeat' (first|(apply A7<;>intro hc<;>try omega)|apply AQ)<;>conv=>whnf
  rw[GH (na _)]at p2;exact F2 D'
theorem vF {f:Nat} {vs:d_} {tm:Tm} {M:Mem} {K:AV->Mem->Prop} {v:AV} (h:CZ L f vs tm M (λ r M'=>r=v/\M'=M)) (hk:K v M):CZ L f vs tm M K:=by
 unfold CZ at h ⊢;intro σ own hs;obtain ⟨r,m8,σ',M',h1,h2,h3,rfl,rfl⟩:=h σ own hs;exact ⟨_,m8,σ',_,h1,h2,h3,hk⟩
theorem AdX (N:c9 L) (a:a_) (q:Bool) (n s:Nat) (hD:CM a) (hn:3<=n) (hl:a.length<=n) (vk:n<=549755813888) (hs:s<=31) (n7:val a*2^s<4294967296^n) :
  Ev L 78 [.sl q (a.map BK),.int .i64 (n:Int),.int .u64 (s:Int)] (.int .i64 ((val a/jY n s:Nat):Int)):=by
 have b1:=aV hD (n-1);have b2:=aV hD (n-2);have b3:=aV hD (n-3);have Dp:=Ae2 hD hn hl rfl rfl n7;have heq:=Ae1 (s:=s) hD hn hl hs rfl rfl rfl;obtain ⟨f1,f2,f3,f4⟩:=gZ (s:=s) b3 D';refine Ev.x N.bN rfl rfl ?_;repeat' (first|(apply CB;omega)|(apply EP;omega)|apply AQ)<;>conv=>whnf
 refine vF (v := .int .u64 ((a.getD (n-1) 0:Nat):Int)) ?_ ?_
 ·refine K5 1000 N.SM rfl rfl ?_
  repeat' (first|(apply A7<;>intro hc<;>try omega)|(apply E2;omega)|apply BW|(refine Z9 G' ?_ (λ e he hb => ?_);omega)|apply AQ)<;>conv=>whnf
  ·refine ⟨rfl,_,rfl,?_,rfl⟩
   rw[show ((n:Int)-1).toNat=n-1 by omega]at he;rw[LQ he];rfl
  ·refine ⟨rfl,_,rfl,?_,rfl⟩
   rw[<-getD_none (show a.length<=n-1 by omega)];rfl
 (conv=>whnf)
 repeat' (first|(apply CB;omega)|(apply EP;omega)|(apply WP;omega))<;>conv=>whnf
 refine vF (v := .int .u64 ((a.getD (n-2) 0:Nat):Int)) ?_ ?_
 ·refine K5 1000 N.SM rfl rfl ?_
  repeat' (first|(apply A7<;>intro hc<;>try omega)|(apply E2;omega)|apply BW|(refine Z9 G' ?_ (λ e he hb => ?_);omega)|apply AQ)<;>conv=>whnf
  ·refine ⟨rfl,_,rfl,?_,rfl⟩
   rw[show ((n:Int)-2).toNat=n-2 by omega]at he;rw[LQ he];rfl
  ·refine ⟨rfl,_,rfl,?_,rfl⟩
   rw[<-getD_none (show a.length<=n-2 by omega)];rfl
 (conv=>whnf)
 generalize a.getD (n-1) 0=d1 at *;generalize a.getD (n-2) 0=d2 at *;repeat' (first|(apply YU;omega)|fail)<;>conv=>whnf
 refine YW D' Dp ?_;conv=>whnf
 generalize hT:(d1*4294967296+d2)*2^s=T at *;repeat' (first|(apply CB;omega)|(apply EP;omega))<;>conv=>whnf
 refine vF (v := .int .u64 ((a.getD (n-3) 0:Nat):Int)) ?_ ?_
 ·refine K5 1000 N.SM rfl rfl ?_
  repeat' (first|(apply A7<;>intro hc<;>try omega)|(apply E2;omega)|apply BW|(refine Z9 G' ?_ (λ e he hb => ?_);omega)|apply AQ)<;>conv=>whnf
  ·refine ⟨rfl,_,rfl,?_,rfl⟩
   rw[show ((n:Int)-3).toNat=n-3 by omega]at he;rw[LQ he];rfl
  ·refine ⟨rfl,_,rfl,?_,rfl⟩
   rw[<-getD_none (show a.length<=n-3 by omega)];rfl
 (conv=>whnf)
 generalize a.getD (n-3) 0=d3 at *;skip
 refine YW D' f4 ?_;conv=>whnf
 (repeat' (apply JU<;>conv=>whnf))
 rw[gY]at f2;refine Ab1 s (by rw[<-hT];exact Lf _ _) f2 (by have:=sT (k:=d1*4294967296+d2) (show s<=64 by omega) D';omega) ?_;conv=>whnf
 repeat' (first|apply Aja|(apply dS;omega))<;>conv=>whnf
 rw[heq];exact F2 rfl
theorem An3 (N:c9 L) (P Q:Int) (hP:0<=P/\P<=4611686018427387904) (hQ:0<=Q/\Q<=4611686018427387904) : ∃ r,Ev L 79 [.int .i64 P,.int .i64 Q] r /\ ∃ a b c d:Int,(vL a b c d/\(-2147483647<=a/\a<=2147483647)/\(-2147483647<=b/\b<=2147483647)/\(-2147483647<=c/\c<=2147483647)/\(-2147483647<=d/\d<=2147483647))/\(b≠0->lI P Q a b c d)/\r = .e9 [.int .i64 a,.int .i64 b,.int .i64 c,.int .i64 d]:=by
 refine Ev.xE N.XF rfl rfl ?_;(repeat' (apply AQ<;>conv=>whnf))
 refine Ah0 (λ_ _ _ _ _ q=>(q+2147483648).toNat) (λ(a b c d p q:Int)=>dX P Q a b c d p q/\((-2147483647<=a/\a<=2147483647)/\(-2147483647<=b/\b<=2147483647)/\(-2147483647<=c/\c<=2147483647)/\(-2147483647<=d/\d<=2147483647))/\(p<=4611686018427387904/\q<=4611686018427387904)/\iU P Q a b c d/\(b≠0->lI P Q a b c d)) (λ a b c d p q=>[(0,.int .i64 p),(1,.int .i64 q),(4,.int .i64 a),(5,.int .i64 b),(6,.int .i64 c),(7,.int .i64 d)]) (λ_ _ _ _ _ _=>[]) [] [] 1 0 0 1 P Q w_ ⟨dX.start hP.1 hQ.1,D',D',iU.start P Q,λ h=>absurd rfl h⟩ ?_;intro a b c d p q ⟨p1,⟨⟨p2,p2'⟩,⟨p3,p3'⟩,⟨p4,p4'⟩,⟨p5,p5'⟩⟩,⟨p6,p7⟩,p8,p9⟩ ih;have g1:=p1.pa;have g2:=p1.pb;have g3:=p1.qc;have g4:=p1.qd;by_cases qf:q+c=0
 ·repeat' (first|(apply A7<;>intro hc<;>try omega)|(apply B5;omega)|apply AQ)<;>conv=>whnf
  refine ⟨.e9 [.int .i64 a,.int .i64 b,.int .i64 c,.int .i64 d],?_,a,b,c,d,⟨p1.sg,D'⟩,p9,rfl⟩;conv=>whnf
  exact B1 rfl (by simp [CI,ES])
 by_cases Ho:q+d=0
 ·repeat' (first|(apply A7<;>intro hc<;>try omega)|(apply B5;omega)|apply AQ)<;>conv=>whnf
  refine ⟨.e9 [.int .i64 a,.int .i64 b,.int .i64 c,.int .i64 d],?_,a,b,c,d,⟨p1.sg,D'⟩,p9,rfl⟩;conv=>whnf
  exact B1 rfl (by simp [CI,ES])
 by_cases hff:(p+a)/(q+c)=(p+b)/(q+d)
 ·obtain ⟨s1,s2,s3,s4⟩:=p1.step qf Ho rfl hff
  have s5:=s4 p8;have s6:=s5.half;have s7:=s1.qc;by_cases jk:2147483647<(p+a)/(q+c)
  ·repeat' (first|(apply A7<;>intro hc<;>try omega)|(apply B5;omega)|(refine VY ?_ ?_ (λ_ => ?_) (λ_ _ => ?_);omega;omega;all_goals try omega)|apply AQ)<;>conv=>whnf
   refine ⟨.e9 [.int .i64 a,.int .i64 b,.int .i64 c,.int .i64 d],?_,a,b,c,d,⟨p1.sg,D'⟩,p9,rfl⟩;conv=>whnf
   exact B1 rfl (by simp [CI,ES])
  ·have t1:=AeQ (x:=(p+a)/(q+c)) (y:=c) (M:=2147483647) (N:=2147483647) D' D'
   have t2:=AeQ (x:=(p+a)/(q+c)) (y:=d) (M:=2147483647) (N:=2147483647) D' D';repeat' (first|(apply A7<;>intro hc<;>try omega)|(apply B5;omega)|(apply EP;omega)|(apply LN;omega)|(refine VY ?_ ?_ (λ_ => ?_) (λ_ _ => ?_);omega;omega;all_goals try omega)|(apply FH.neg;omega)|apply AQ)<;>conv=>whnf
   all_goals first
    | exact EA [] w_ (ih _ _ _ _ _ _ D' ⟨s1,D',D',s6,λ_=>s5⟩)
    |(refine ⟨.e9 [.int .i64 a,.int .i64 b,.int .i64 c,.int .i64 d],?_,a,b,c,d,⟨p1.sg,D'⟩,p9,rfl⟩
      (conv=>whnf)
      exact B1 rfl (by simp [CI,ES]))
 ·repeat' (first|(apply A7<;>intro hc<;>try omega)|(apply B5;omega)|(refine VY ?_ ?_ (λ_ => ?_) (λ_ _ => ?_);omega;omega;all_goals try omega)|apply AQ)<;>conv=>whnf
  refine ⟨.e9 [.int .i64 a,.int .i64 b,.int .i64 c,.int .i64 d],?_,a,b,c,d,⟨p1.sg,D'⟩,p9,rfl⟩;conv=>whnf
  exact B1 rfl (by simp [CI,ES])
theorem An4 (N:c9 L) (x y:a_) (q1 q2:Bool) (f g:Int) (hX:CM x) (hY:CM y) (hl:y.length<=x.length) (lx:x.length<=549755813888) (hs:Z7 f g) (R:Nat) (hR:(R:Int)=f*val x+g*val y) (Pn:R<=val x) :
  Ev L 80 [.sl q1 (x.map BK),.sl q2 (y.map BK),.int .i64 f,.int .i64 g] (.sl false ((dg R).map BK)):=by
 refine Ev.x N.XG rfl rfl ?_;repeat' (first|apply BW|apply AQ)<;>conv=>whnf
 refine I2 (enc:=BK) 0 x.length rfl rfl D' ?_;conv=>whnf
 (repeat' (apply BW<;>conv=>whnf))
 refine LK (λ i _ _=>x.length-i) (λ(i:Nat) (o:a_) (c:Int)=>i<=x.length/\o.length=x.length/\CM o /\ -2147483648<=c/\c<=2147483648/\(val (o.take i):Int)+((4294967296^i:Nat):Int)*c=f*val (x.take i)+g*val (y.take i)) (λ i o c=>[(10,.int .i64 c),(19,.int .i64 i)]) (λ i o c=>[(16,16,.rw 1 (o.map BK))]) 0 (Wa x.length 0) 0 ⟨D',p_,QK _,D',D',by simp [val]⟩ ?_;intro i o c ⟨p1,p2,p3,p4,p5,p6⟩ ih;by_cases hi:i<x.length
 ·obtain ⟨d,hd⟩:=X_ x i hi
  have ik:=hX.at hd;have h1:=HS hd;by_cases hy:i<y.length
  ·obtain ⟨e,he⟩:=X_ y i hy
   have heb:=hY.at he;have h2:=HS he;obtain ⟨r1,r2,r3⟩:=hs.rng ik heb;have m4:=AcP (d:=d) (e:=e) p6 rfl;repeat' (first|(apply A7<;>intro hc<;>try omega)|(apply B5;omega)|(apply LN;omega)|(apply dS;omega)|apply BW|(refine CU G' ?_ rfl ?_;omega)|apply AQ)<;>conv=>whnf
   generalize Wn:f * ↑d+c+g * ↑e=t at *;refine AbT ?_;conv=>whnf
   repeat' (first|(apply CB;omega)|fail)<;>conv=>whnf
   refine JM D' ?_;conv=>whnf
   refine Ab3 ?_;conv=>whnf
   repeat' (first|(apply B5;omega)|fail)<;>conv=>whnf
   refine EA [] w_ (ih (i+1) _ _ D' ⟨D',by simpa using p2,p3.set _ (AcO t),D',D',?_⟩);rw[KW D',h1,h2,Hb];simp only[gg,Te,wN];exact m4
  ·have h2:=uZ (y:=y) (i:=i) D'
   obtain ⟨r1,r2,r3⟩:=hs.rng (e:=0) ik D';have m4:=AcP (d:=d) (e:=0) p6 rfl;rw[jj,ni]at m4;have r4 : -9223372030412324865<=f*(d:Int)/\f*(d:Int)<=9223372030412324865:=r1;repeat' (first|(apply A7<;>intro hc<;>try omega)|(apply B5;omega)|(apply LN;omega)|(apply dS;omega)|apply BW|(refine CU G' ?_ rfl ?_;omega)|apply AQ)<;>conv=>whnf
   generalize Wn:f * ↑d+c=t at *;refine AbT ?_;conv=>whnf
   repeat' (first|(apply CB;omega)|fail)<;>conv=>whnf
   refine JM D' ?_;conv=>whnf
   refine Ab3 ?_;conv=>whnf
   repeat' (first|(apply B5;omega)|fail)<;>conv=>whnf
   refine EA [] w_ (ih (i+1) _ _ D' ⟨D',by simpa using p2,p3.set _ (AcO t),D',D',?_⟩);rw[KW D',h1,h2,Hb];simp only[gg,Te,wN];rw[jj,ni]at m4;exact m4
 ·obtain rfl:i=x.length:=D'
  clear ih;rw[GH D',GH (na _),GH D']at p6;have hov:=JD p3;have hxv:=JD hX;rw[p2]at hov;have hVR:val o=R:=by
   have:=Ak3 hov p6 D' D'
   omega
  have rf:=IQ p3;rw[<-p2,<-hVR];repeat' (first|(apply A7<;>intro hc<;>try omega)|apply AQ|refine pQ N G' D' rfl (by first|rfl|omega|assumption) ?_)<;>conv=>whnf
  refine NK (enc:=BK) (λ_=>rfl) D' ?_;conv=>whnf
  refine B1 ?_ (by simp only[CI,true_and];exact EW _);rw[Wb,oX p3]
theorem An7 (N:c9 L) (X Y:Nat) (Dj:Y<=X) (hy:3<=(dg Y).length) (lx:(dg X).length<=549755813888) : ∃ r,Ev L 81 [.sl false ((dg X).map BK),.sl false ((dg Y).map BK)] r /\ ∃ A B:Nat,(B<Y/\B<=A/\A<=X/\Wc A B=Wc X Y)/\r = .e9 [.sl false ((dg A).map BK),.sl false ((dg B).map BK)]:=by
 have hY0:Y≠0:=λ h=>by rw[h,I6]at hy;simp at hy
 have Fv:X≠0:=D'
 have hlen:=aK Dj;have hdv:=λ q q'=>yQ N X Y q q' hY0 lx D'
 have d1:=HM X;have d2:=HM Y;have v1:=EH X;have v2:=EH Y;obtain ⟨xt,hxt,Avc⟩:=xL Fv;have Uy:=d1.at hxt;obtain ⟨b1,b2,b3,b4⟩:=Zd Avc Uy;have Th:=AdJ N xt Uy;generalize hs:32-u7 xt=s at *;have js:s<=31:=D'
 obtain ⟨n1,n2⟩:=Yv d1 hxt D' js b3 b4;have Co:=λ(f g:Int) (R:Nat) (hs:Z7 f g) (h1:(R:Int)=f*val (dg X)+g*val (dg Y)) (h2:R<=val (dg X)) (q q':Bool)=>An4 N (dg X) (dg Y) q q' f g d1 d2 D' lx hs R h1 h2
 have n3:val (dg Y)*2^s<4294967296^(dg X).length:=Nat.lt_of_le_of_lt (zR _ D') n1;have rf:=λ q=>AdX N (dg X) q (dg X).length s d1 D' D' lx js n1
 have lv:=λ q=>AdX N (dg Y) q (dg X).length s d2 D' D' lx js n3
 have hK:=Aqr (dg X).length s;obtain ⟨e1,x1,x2,x3⟩:=Ae4 (V:=X) hK;obtain ⟨e2,y1,y2,y3⟩:=Ae4 (V:=Y) hK;rw[v1]at rf;rw[v2]at lv;have Ii:=Ae3 d1 (n:=(dg X).length) D' D' js n1;have Gd:=Ae3 d2 (n:=(dg X).length) D' D' js n3;rw[v1]at Ii;rw[v2]at Gd;generalize jY (dg X).length s=K at *;generalize X/K=P at *;generalize Y/K=Q at *;rw[v1,v2]at Co;obtain ⟨rc,Qf,a,b,c,d,⟨z1,z2,z3,z4,z5⟩,z6,rfl⟩:=An3 N (P:Int) (Q:Int) D' D';have e1:(((dg X).length:Int)-1).toNat=(dg X).length-1:=D'
 rw[<-e1]at hxt;refine Ev.xE N.bO rfl rfl ?_;by_cases hb:b=0
 ·repeat' (first|(apply A7<;>intro hc<;>try omega)|(apply EP;omega)|(apply E2;omega)|apply BW|(refine CU G' ?_ rfl ?_;omega)|apply AQ|refine AU (Th) ?_|refine AU (rf _) ?_|refine AU (lv _) ?_|refine AU (Qf) ?_|refine AU (hdv _ _) ?_)<;>conv=>whnf
  refine ⟨_,?_,Y,X%Y,⟨Qc _ D',Kg (Qc _ D'),Dj,nD X Y⟩,rfl⟩;conv=>whnf
  exact B1 rfl (mA _ _)
 ·obtain ⟨g1,g2,g3,g4⟩:=z6 hb (X:Int) (Y:Int) (K:Int) _ _ D' x1 y1 x2 x3 y2 y3
  obtain ⟨A,hA⟩:=Oe (show 0<=a*X+b*Y by omega);obtain ⟨B,hB⟩:=Oe g1;have s1:Z7 a b:=by rcases z1 with ⟨h1,h2,h3,h4⟩|⟨h1,h2,h3,h4⟩<;>unfold Z7<;>omega
  have s2:Z7 c d:=by rcases z1 with ⟨h1,h2,h3,h4⟩|⟨h1,h2,h3,h4⟩<;>unfold Z7<;>omega
  repeat' (first|(apply A7<;>intro hc<;>try omega)|(apply EP;omega)|(apply E2;omega)|apply BW|(refine CU G' ?_ rfl ?_;omega)|apply AQ|refine AU (Th) ?_|refine AU (rf _) ?_|refine AU (lv _) ?_|refine AU (Qf) ?_|refine AU (Co a b A s1 hA.symm D' _ _) ?_|refine AU (Co c d B s2 hB.symm D' _ _) ?_)<;>conv=>whnf
  rw[hA,hB]at g4;rw[hA,hB]at g2;refine ⟨_,?_,A,B,⟨D',D',D',by simpa using g4⟩,rfl⟩;conv=>whnf
  exact B1 rfl (mA _ _)
theorem Aey (N:c9 L) (X Y:Nat) (Dj:Y<=X) (lx:(dg X).length<=549755813888) :
 AJ L [It.lp LS.l1,It.g8 0,
   It.code
    ((((DE.ops LS.r6 false).dr [23,30,31] []).seq
       (DE.cond 32 (((DE.ops LS.r7 false).dr [5,6,32,33] []).seq DE.ret) DE.skip)).seq
     (((DE.ops LS.r8 false).dr [5,7,32,34,35,36,37,38,39] []).seq
      (((DE.ops LS.r9 false).dr [6,8,40,41,42,43] []).seq
       ((DE.block 2 LS.l2.loop).seq
        (((DE.ops LS.Gp false).dr [9,10,45,50,51,52,53,54,55,56] []).seq DE.ret)))))]
  [(6,AV.sl false (Od BK (dg Y))),(5,AV.sl false (Od BK (dg X)))] []
  (aA LS (AV.sl false (Od BK (dg (X.gcd Y))))):=by
 refine LJ (λ_ y=>y) (λ(x y:Nat)=>y<=x/\(dg x).length<=549755813888/\Wc x y=Wc X Y) (λ x y=>[(6,AV.sl false (Od BK (dg y))),(5,AV.sl false (Od BK (dg x)))]) (λ_ _=>[]) X Y ⟨Dj,lx,rfl⟩ ?_;intro x y ⟨p1,p2,p3⟩ ih;rw[<-p3]at ih ⊢;generalize Wc X Y=G at *;clear Dj lx;subst p3;have hlen:=aK p1;by_cases h3:3<=(dg y).length
 ·obtain ⟨r,hr,A,B,⟨k1,k2,k3,k4⟩,rfl⟩:=An7 N x y p1 h3 p2
  have k5:=aK k3;repeat' (first|(apply A7<;>intro hc<;>try omega)|apply BW|apply AQ|refine AU (hr) ?_)<;>conv=>whnf
  exact DB [] (ih A B k1 ⟨k2,D',k4⟩)
 ·clear ih
  by_cases h0:y=0
  ·subst h0
   have qz:(dg 0).length=0:=by rw[I6];rfl
   repeat' (first|(apply A7<;>intro hc<;>try omega)|apply BW|apply AQ)<;>conv=>whnf
   rw[Qg];exact B1 rfl (by simp only[CI,true_and];exact EW _)
  ·have hp:=mI h0
   have hm:=aK (Kg (Qc x (show y>0 by omega)));have hd:=λ q q'=>yQ N x y q q' h0 p2 D'
   have Qj:=λ q=>AdY N y q D'
   have Aj:=λ q=>AdY N (x%y) q D'
   have hb:y<18446744073709551616:=WZ.1 (show (dg y).length<=2 by omega);have gx:x%y<y:=Qc _ D';rw[<-nD x y];repeat' (first|(apply A7<;>intro hc<;>try omega)|apply BW|apply AQ|refine AU (hd _ _) ?_|refine AU (Qj _) ?_|refine AU (Aj _) ?_)<;>conv=>whnf
   refine pH (λ_ q=>q) (λ(p q:Nat)=>p<18446744073709551616/\q<18446744073709551616/\Wc p q=Wc y (x%y)) (λ p q=>[(9,.int .u64 (p:Int)),(10,.int .u64 (q:Int))]) (λ_ _=>[]) [] [] y (x%y) w_ ⟨hb,D',rfl⟩ ?_;intro p q ⟨g1,g2,g3⟩ ih;rw[<-g3]at ih ⊢;by_cases hq:q=0
   ·subst hq
    clear ih;obtain ⟨v1,v2⟩:=xH g1;rw[Qg];have rf:=IQ v2;have ht:=oX v2;rw[v1]at rf ht;repeat' (first|(apply A7<;>intro hc<;>try omega)|apply JU|(apply IA;omega)|apply J7|apply AQ)<;>conv=>whnf
    generalize p%4294967296=lo at *;generalize p/4294967296=hi at *;refine pQ N v2 p_ rfl rfl ?_;rw[v1];conv=>whnf
    skip
    refine NK (enc:=BK) (l:=[lo,hi]) (λ_=>rfl) D' ?_;conv=>whnf
    refine B1 ?_ (by simp only[CI,true_and];exact EW _);rw[Wb,ht]
   ·have hpq:p%q<q:=Qc _ D'
    repeat' (first|(apply A7<;>intro hc<;>try omega)|(apply lJ;omega)|apply AQ)<;>conv=>whnf
    exact DB [] (ih q (p%q) hpq ⟨g2,D',nD p q⟩)
theorem An2 (N:c9 L) (a b:a_) (q1 q2:Bool) (hA:CM a) (hB:CM b) (la:a.length<=549755813888) (lb:b.length<=549755813888) :
  Ev L 82 [.sl q1 (a.map BK),.sl q2 (b.map BK)] (.sl false ((dg (Wc (val a) (val b))).map BK)):=by
 have t1:=λ q=>mK N a q hA D'
 have t2:=λ q=>mK N b q hB D'
 have l1:=IQ hA;have l2:=IQ hB;have n0:=λ q q'=>Y8 N (dg (val a)) (dg (val b)) q q' (HM _) (HM _) D' D'
 rw[EH,EH]at n0;generalize val a=X at *;generalize val b=Y at *;refine Ev.x N.LS rfl rfl ?_;by_cases n7:X<Y
 ·have hn:GE X Y = -1:=(OM D').symm
  rw[hn]at n0;repeat' (first|(apply A7<;>intro hc<;>try omega)|apply AQ|refine AU (t1 _) ?_|refine AU (t2 _) ?_|refine AU (n0 _ _) ?_)<;>conv=>whnf
  rw[nj];exact EA [] w_ (Aey N Y X D' D')
 ·have vi:0<=GE X Y:=by unfold GE;split<;>(try split)<;>omega
  generalize GE X Y=cm at *;repeat' (first|(apply A7<;>intro hc<;>try omega)|apply AQ|refine AU (t1 _) ?_|refine AU (t2 _) ?_|refine AU (n0 _ _) ?_)<;>conv=>whnf
  exact EA [] w_ (Aey N X Y D' D')
end Go.j4
