/-
  Linear systems, plain: steps of rows, what they keep, and what a matrix of steps tells.
-/
import Derived.Test.YtfnglkabkfmjcaaGreatB10
set_option linter.unusedSimpArgs false
set_option linter.unusedVariables false
set_option linter.unnecessarySimpa false
namespace Go.e8
def EU (m:List (List Rat)) (X:List Rat):Prop := ∀ r∈m,A4 r X=0
def comb (p f l:Rat) (r t:List Rat):List Rat:=List.zipWith (λ x y=>(x*p-y*f)/l) r t
theorem yZ {p f l:Rat} {r t:List Rat} (h:r.length=t.length):(comb p f l r t).length=r.length:=by simp [comb,h]
theorem yY (p f l:Rat) : ∀ (r t X:List Rat),r.length=t.length->A4 (comb p f l r t) X=(p*A4 r X-f*A4 t X)/l
 | [],[],X,_=>by
  show A4 [] X=_;simp only[A4,Rat.div_def];grind
 | x::r,y::t,[],_=>by
  simp only[comb,List.zipWith_cons_cons,A4,Rat.div_def];grind
 | x::r,y::t,z::X,h=>by
  have ih:=yY p f l r t X (by simpa using h);simp only[comb]at ih;simp only[comb,List.zipWith_cons_cons,A4,ih,Rat.div_def];grind
theorem AgH {p f l:Rat} {r t:List Rat} {j:Nat} {x y:Rat} (hx:r[j]? = some x) (hy:t[j]? = some y):(comb p f l r t)[j]? = some ((x*p-y*f)/l):=by
 simp [comb,List.getElem?_zipWith,hx,hy]
theorem XW {m:List (List Rat)} {i:Nat} {x r:List Rat} (h:r∈m.set i x):r=x \/ ∃ j,j≠i/\m[j]? = some r:=by
 obtain ⟨j,hj⟩:=List.getElem?_of_mem h;rw[List.getElem?_set]at hj;by_cases e:i=j
 ·subst e
  rw[if_pos rfl]at hj;split at hj
  ·exact Or.inl (Option.some.inj hj).symm
  ·cases hj
 ·rw[if_neg e]at hj
  exact Or.inr ⟨j,Ne.symm e,hj⟩
theorem Als {m:List (List Rat)} {i k:Nat} {r t:List Rat} {p f l:Rat} (hi:m[i]? = some r) (hk:m[k]? = some t) (pc:k≠i) (hl:r.length=t.length) (hp:p≠0) (h0:l≠0) (X:List Rat):EU (m.set i (comb p f l r t)) X↔EU m X:=by
 have hc:=yY p f l r t X hl;have ak:=(zS hi).1;constructor
 ·intro h r' ka
  have ht:A4 t X=0:=h t (by
   refine zM (i:=k) ?_;rw[List.getElem?_set,if_neg (Ne.symm pc)];exact hk)
  have hn:A4 (comb p f l r t) X=0:=h _ (zM (i:=i) (by rw[List.getElem?_set,if_pos rfl,if_pos ak]));rw[hc,ht]at hn;have w8:A4 r X=0:=by
   have e1:=Rat.div_mul_cancel h0 (a:=p*A4 r X-f*0);rw[hn]at e1;have e2:p*A4 r X=0:=by grind
   rcases Rat.mul_eq_zero.1 e2 with h|h
   ·exact absurd h hp
   ·exact h
  obtain ⟨j,hj⟩:=List.getElem?_of_mem ka;by_cases e:j=i
  ·subst e
   obtain rfl:=Option.some.inj (hi.symm.trans hj);exact w8
  ·exact h r' (zM (i:=j) (by rw[List.getElem?_set,if_neg (Ne.symm e)];exact hj))
 ·intro h r' ka
  rcases XW ka with rfl|⟨j,_,hj⟩
  ·rw[hc,h r (zM hi),h t (zM hk),Rat.div_def];grind
  ·exact h r' (zM hj)
theorem Alr {m:List (List Rat)} {i k:Nat} {a b:List Rat} (hi:m[i]? = some a) (hk:m[k]? = some b) (X:List Rat):EU ((m.set i b).set k a) X↔EU m X:=by
 have ak:=(zS hi).1;have qi:=(zS hk).1;constructor
 ·intro h r hr
  obtain ⟨j,hj⟩:=List.getElem?_of_mem hr;by_cases e1:j=k
  ·subst e1
   obtain rfl:=Option.some.inj (hk.symm.trans hj);by_cases e2:i=j
   ·subst e2
    obtain rfl:=Option.some.inj (hi.symm.trans hk);exact h _ (zM (i:=i) (by rw[List.getElem?_set,if_pos rfl,List.length_set,if_pos ak]))
   ·exact h _ (zM (i:=i) (by rw[List.getElem?_set,if_neg (Ne.symm e2),List.getElem?_set,if_pos rfl,if_pos ak]))
  ·by_cases e2:j=i
   ·subst e2
    obtain rfl:=Option.some.inj (hi.symm.trans hj);exact h _ (zM (i:=k) (by rw[List.getElem?_set,if_pos rfl,List.length_set,if_pos qi]))
   ·exact h _ (zM (i:=j) (by rw[List.getElem?_set,if_neg (Ne.symm e1),List.getElem?_set,if_neg (Ne.symm e2)];exact hj))
 ·intro h r hr
  rcases XW hr with rfl|⟨j,_,hj⟩
  ·exact h _ (zM hi)
  ·rcases XW (zM hj) with rfl|⟨q,_,hq⟩
   ·exact h _ (zM hk)
   ·exact h _ (zM hq)
structure EG (m:List (List Rat)) (W c:Nat) (P:List Nat):Prop where
 lr : ∀ r∈m,r.length=W
 pl:P.length<=m.length
 inc : ∀ i j p q:Nat,i<j->P[i]? = some p->P[j]? = some q->p<q
 pb : ∀ p∈P,p<c
 nz : ∀ (i p:Nat) (r:List Rat),P[i]? = some p->m[i]? = some r->r.getD p 0≠0 /\ ∀ j,j<p->r.getD j 0=0
 zr : ∀ (i:Nat) (r:List Rat),P.length<=i->m[i]? = some r -> ∀ j,j<c->r.getD j 0=0
theorem EG.start {m:List (List Rat)} {W:Nat} (h : ∀ r∈m,r.length=W):EG m W 0 [] :=
 ⟨h,Nat.zero_le _,λ i j p q _ h=>by simp at h,(λ p h=>by cases h),(λ i p r h=>by simp at h),λ i r _ _ j hj=>absurd hj (by omega)⟩
theorem EG.skip {m:List (List Rat)} {W c:Nat} {P:List Nat} (h:EG m W c P) (hz : ∀ i r,P.length<=i->m[i]? = some r->r.getD c 0=0):EG m W (c+1) P :=
 ⟨h.lr,h.pl,h.inc,λ p hp=>Nat.lt_succ_of_lt (h.pb p hp),h.nz,λ i r hi hr j hj=>by
  by_cases e:j=c
  ·subst e;exact hz i r hi hr
  ·exact h.zr i r hi hr j (by omega)⟩
theorem EG.swap {m:List (List Rat)} {W c i k:Nat} {P:List Nat} {a b:List Rat} (h:EG m W c P) (hi:m[i]? = some a) (hk:m[k]? = some b) (h1:P.length<=i) (h2:P.length<=k):EG ((m.set i b).set k a) W c P:=by
 have hg : ∀ q,q<P.length->((m.set i b).set k a)[q]? = m[q]? := λ q hq=>by
  rw[List.getElem?_set,if_neg (by omega),List.getElem?_set,if_neg (by omega)]
 have hm : ∀ q r,P.length<=q->((m.set i b).set k a)[q]? = some r -> ∃ q',P.length<=q'/\m[q']? = some r:=λ q r hq hr=>by
  rw[List.getElem?_set]at hr;split at hr
  ·split at hr
   ·obtain rfl:=Option.some.inj hr;exact ⟨i,h1,hi⟩
   ·cases hr
  ·rw[List.getElem?_set]at hr
   split at hr
   ·split at hr
    ·obtain rfl:=Option.some.inj hr;exact ⟨k,h2,hk⟩
    ·cases hr
   ·exact ⟨q,hq,hr⟩
 refine ⟨λ r hr => ?_,by simpa using h.pl,h.inc,h.pb,λ q p r hp hr => ?_,λ q r hq hr j hj => ?_⟩
 ·rcases XW hr with rfl|⟨j,_,hj⟩
  ·exact h.lr _ (zM hi)
  ·rcases XW (zM hj) with rfl|⟨q,_,hq⟩
   ·exact h.lr _ (zM hk)
   ·exact h.lr _ (zM hq)
 ·rw[hg q (zS hp).1]at hr
  exact h.nz q p r hp hr
 ·obtain ⟨q',h3,h4⟩:=hm q r hq hr
  exact h.zr q' r h3 h4 j hj
theorem EG.Iw {m:List (List Rat)} {W c:Nat} {P:List Nat} {t:List Rat} (h:EG m W c P) (ht:m[P.length]? = some t) (hn:t.getD c 0≠0) (hz : ∀ i r,P.length<i->m[i]? = some r->r.getD c 0=0):EG m W (c+1) (P++[c]):=by
 have vk:=(zS ht).1;refine ⟨h.lr,by simp;omega,λ i j p q gb hp hq => ?_,λ p hp => ?_,λ i p r hp hr => ?_,λ i r hi hr j hj => ?_⟩
 ·have dm:=(zS hq).1
  rw[List.length_append,List.length_singleton]at dm;rw[List.getElem?_append_left (by omega)]at hp;by_cases e:j<P.length
  ·rw[List.getElem?_append_left e]at hq
   exact h.inc i j p q gb hp hq
  ·rw[List.getElem?_append_right (by omega),show j-P.length=0 by omega]at hq
   obtain rfl:=Option.some.inj hq;exact h.pb p (zM hp)
 ·rcases List.mem_append.1 hp with hp|hp
  ·exact Nat.lt_succ_of_lt (h.pb p hp)
  ·obtain rfl:=List.mem_singleton.1 hp;omega
 ·by_cases e:i<P.length
  ·rw[List.getElem?_append_left e]at hp
   exact h.nz i p r hp hr
  ·have ak:=(zS hp).1
   rw[List.length_append,List.length_singleton]at ak;rw[List.getElem?_append_right (by omega),show i-P.length=0 by omega]at hp;obtain rfl:=Option.some.inj hp;obtain rfl:i=P.length:=by omega
   obtain rfl:=Option.some.inj (ht.symm.trans hr);exact ⟨hn,λ j hj=>h.zr P.length _ (Nat.le_refl _) ht j hj⟩
 ·rw[List.length_append,List.length_singleton]at hi
  by_cases e:j=c
  ·subst e;exact hz i r (by omega) hr
  ·exact h.zr i r (by omega) hr j (by omega)
theorem EG.diag {m:List (List Rat)} {W c:Nat} {P:List Nat} (h:EG m W c P) (hP:P.length=c) : ∀ i p:Nat,P[i]? = some p->p=i:=by
 have up : ∀ d i p:Nat,P[i]? = some p->i+d<c->p+d<c:=by
  intro d;induction d with
  | zero=>intro i p hp _;exact h.pb p (zM hp)
  | succ d ih =>
   intro i p hp hi;obtain ⟨q,hq⟩ : ∃ q,P[i+1]? = some q:=⟨_,zE (by omega)⟩;have h1:=h.inc i (i+1) p q (by omega) hp hq;have h2:=ih (i+1) q hq (by omega);omega
 have dn : ∀ i p:Nat,P[i]? = some p->i<=p:=by
  intro i;induction i with
  | zero=>intro p _;omega
  | succ i ih =>
   intro p hp;have ak:=(zS hp).1;obtain ⟨q,hq⟩ : ∃ q,P[i]? = some q:=⟨_,zE (by omega)⟩;have h1:=h.inc i (i+1) q p (by omega) hq hp;have h2:=ih q hq;omega
 intro i p hp;have ak:=(zS hp).1;have h1:=dn i p hp;have h2:=up (c-1-i) i p hp (by omega);omega
def B6 (f:Nat->Rat):Nat->Rat
 | 0=>0
 | n+1=>B6 f n+f n
theorem vQ {f g:Nat->Rat} : ∀ n,(∀ j,j<n->f j=g j)->B6 f n=B6 g n
 | 0,_=>rfl
 | n+1,h=>by rw[B6,B6,vQ n λ j hj=>h j (by omega),h n (by omega)]
theorem eF {f:Nat->Rat} : ∀ n,(∀ j,j<n->f j=0)->B6 f n=0
 | 0,_=>rfl
 | n+1,h=>by rw[B6,eF n λ j hj=>h j (by omega),h n (by omega),Rat.add_zero]
theorem Yg {f:Nat->Rat} {n:Nat} : ∀ d,(∀ j,n<=j->f j=0)->B6 f (n+d)=B6 f n
 | 0,_=>rfl
 | d+1,h=>by rw[<-Nat.add_assoc,B6,Yg d h,h (n+d) (by omega),Rat.add_zero]
theorem vR {f:Nat->Rat} {k:Nat} : ∀ n,k<n->(∀ j,j<n->j≠k->f j=0)->B6 f n=f k
 | n+1,hk,h=>by
  by_cases e:k=n
  ·subst e
   rw[B6,eF k λ j hj=>h j (by omega) (by omega),Rat.zero_add]
  ·rw[B6,vR n (by omega) λ j hj=>h j (by omega),h n (by omega) (Ne.symm e),Rat.add_zero]
theorem Yh (R y:Nat->Rat) (v:Rat) (k:Nat) : ∀ n,B6 (λ j=>R j*(if j=k then v else y j)) n=B6 (λ j=>R j*y j) n+if k<n then R k*(v-y k) else 0
 | 0=>by simp [B6,Rat.add_zero]
 | n+1=>by
  rw[B6,B6,Yh R y v k n];by_cases e:n=k
  ·subst e
   rw[if_pos rfl,if_neg (Nat.lt_irrefl n),if_pos (Nat.lt_succ_self n)];grind
  ·rw[if_neg e]
   by_cases h:k<n
   ·rw[if_pos h,if_pos (by omega)];grind
   ·rw[if_neg h,if_neg (by omega)];grind
theorem Yf (f:Nat->Rat) : ∀ n,B6 f (n+1)=f 0+B6 (λ j=>f (j+1)) n
 | 0=>by simp only[B6];grind
 | n+1=>by rw[B6,Yf f n,B6];grind
theorem lH : ∀ (r X:List Rat) (n:Nat),r.length<=n->A4 r X=B6 (λ j=>r.getD j 0*X.getD j 0) n
 | [],X,n,_=>by rw[eF n λ j _=>by simp];rfl
 | x::r,[],n,_=>by rw[cU,eF n λ j _=>by simp]
 | x::r,y::X,0,h=>by simp at h
 | x::r,y::X,n+1,h=>by
  rw[Yf,A4,lH r X n (by simpa using h)];simp
def A2 (m:List (List Rat)) (i j:Nat):Rat:=(m.getD i []).getD j 0
theorem OW {m:List (List Rat)} {i:Nat} {r:List Rat} (h:m[i]? = some r) (j:Nat):A2 m i j=r.getD j 0:=by
 rw[A2,show m.getD i []=r by rw[List.getD_eq_getElem?_getD,h];rfl]
def cL (R:Nat->Nat->Rat) (c:Nat):Prop := ∀ i,i<c->R i i≠0 /\ ∀ j,j<i->R i j=0
theorem Ym {R:Nat->Nat->Rat} {c:Nat} (h:cL R c) (f:Nat->Rat) : ∀ d,d<=c -> ∃ y:Nat->Rat,∀ i,c-d<=i->i<c->B6 (λ j=>R i j*y j) c=f i
 | 0,_=>⟨λ_=>0,λ i h1 h2=>absurd h2 (by omega)⟩
 | d+1,hd=>by
  obtain ⟨y,hy⟩:=Ym h f d (by omega);obtain ⟨k,hk⟩ : ∃ k,k=c-(d+1):=⟨_,rfl⟩;have Nh:k<c:=by omega
  refine ⟨λ j=>if j=k then y k+(f k-B6 (λ j=>R k j*y j) c)/R k k else y j,λ i h1 h2 => ?_⟩;rw[Yh (R i) y _ k c,if_pos Nh];by_cases e:i=k
  ·subst e
   have h0:=(h i Nh).1;have:=Rat.div_mul_cancel h0 (a:=f i-B6 (λ j=>R i j*y j) c)
   grind
  ·rw[hy i (by omega) h2,(h i h2).2 k (by omega)];grind
theorem Xq {R:Nat->Nat->Rat} {c:Nat} (h:cL R c) {y:Nat->Rat} (hy : ∀ i,i<c->B6 (λ j=>R i j*y j) c=0) : ∀ d,d<=c -> ∀ j,c-d<=j->j<c->y j=0
 | 0,_=>λ j h1 h2=>absurd h2 (by omega)
 | d+1,hd=>λ j h1 h2=>by
  have ih:=Xq h hy d (by omega);by_cases e:c-d<=j
  ·exact ih j e h2
  ·have h3:=hy j h2
   rw[vR c h2 λ q hq hn=>by
    by_cases e2:q<j
    ·rw[(h j h2).2 q e2,Rat.zero_mul]
    ·rw[ih q (by omega) hq,Rat.mul_zero]]at h3
   rcases Rat.mul_eq_zero.1 h3 with h4|h4
   ·exact absurd h4 (h j h2).1
   ·exact h4
theorem EG.low {m:List (List Rat)} {W c:Nat} {P:List Nat} (h:EG m W c P) : ∀ i p:Nat,P[i]? = some p->i<=p
 | 0,p,_=>Nat.zero_le p
 | i+1,p,hp=>by
  have ak:=(zS hp).1;obtain ⟨q,hq⟩ : ∃ q,P[i]? = some q:=⟨_,zE (by omega)⟩;have h1:=h.inc i (i+1) q p (by omega) hq hp;have h2:=h.low i q hq;omega
theorem EG.le {m:List (List Rat)} {W c:Nat} {P:List Nat} (h:EG m W c P):P.length<=c:=by
 cases e:P.length with
 | zero=>exact Nat.zero_le c
 | succ k =>
  obtain ⟨q,hq⟩ : ∃ q,P[k]? = some q:=⟨_,zE (by omega)⟩;have h1:=h.low k q hq;have h2:=h.pb q (zM hq);omega
theorem EG.wide {m:List (List Rat)} {W c n:Nat} {P:List Nat} (h:EG m W c P) (hP:P.length=m.length) (hn:c<=n):EG m W n P :=
 ⟨h.lr,h.pl,h.inc,λ p hp=>Nat.lt_of_lt_of_le (h.pb p hp) hn,h.nz,λ i r hi hr=>by
  have:=(zS hr).1
  omega⟩
theorem Wn {m:List (List Rat)} {W i n:Nat} {r X:List Rat} (hr:m[i]? = some r) (hl:r.length=W) (hn:n<=W) (hX : ∀ j,n<=j->X.getD j 0=0):A4 r X=B6 (λ j=>A2 m i j*X.getD j 0) n:=by
 obtain ⟨d,rfl⟩:=Nat.exists_eq_add_of_le hn;rw[lH r X (n+d) (by omega),Yg d λ j hj=>by rw[hX j hj,Rat.mul_zero]];exact vQ n λ j _=>by rw[OW hr]
theorem EG.Qb {m:List (List Rat)} {W n c:Nat} {P:List Nat} (h:EG m W n P) (hc : ∀ i,i<c->P[i]? = some i):cL (A2 m) c:=λ i hi=>by
 have h1:=(zS (hc i hi)).1;obtain ⟨r,hr⟩ : ∃ r,m[i]? = some r:=⟨_,zE (Nat.lt_of_lt_of_le h1 h.pl)⟩;have:=h.nz i i r (hc i hi) hr
 rw[OW hr];exact ⟨this.1,λ j hj=>by rw[OW hr];exact this.2 j hj⟩
theorem EG.full {m:List (List Rat)} {W n:Nat} {P:List Nat} (h:EG m W n P) (hP:P.length=n) (hW:n<=W) {X:List Rat} (hk:EU m X) (hX : ∀ j,n<=j->X.getD j 0=0) (j:Nat):X.getD j 0=0:=by
 have hd : ∀ i,i<n->P[i]? = some i:=λ i hi=>by
  obtain ⟨q,hq⟩ : ∃ q,P[i]? = some q:=⟨_,zE (by omega)⟩;rw[hq,h.diag hP i q hq]
 have ht:=h.Qb hd;by_cases e:j<n
 ·refine Xq ht (y:=λ j=>X.getD j 0) (λ i hi => ?_) n (Nat.le_refl n) j (by omega) e
  obtain ⟨r,hr⟩ : ∃ r,m[i]? = some r:=⟨_,zE (by have:=h.pl;omega)⟩;rw[<-Wn hr (h.lr r (zM hr)) hW hX];exact hk r (zM hr)
 ·exact hX j (by omega)
theorem EG.gap {m:List (List Rat)} {W n:Nat} {P:List Nat} (h:EG m W n P) : ∀ c:Nat,c<=P.length->(∀ i:Nat,i<c->P[i]? = some i) \/ ∃ k,(∀ i,i<k->P[i]? = some i) /\ ∃ p:Nat,P[k]? = some p/\k<p
 | 0,_=>Or.inl λ i hi=>absurd hi (by omega)
 | c+1,hc=>by
  rcases h.gap c (by omega) with h1|h1
  ·obtain ⟨q,hq⟩ : ∃ q,P[c]? = some q:=⟨_,zE (by omega)⟩
   have h2:=h.low c q hq;by_cases e:q=c
   ·subst e
    exact Or.inl λ i hi=>by
     by_cases e:i=q
     ·subst e;exact hq
     ·exact h1 i (by omega)
   ·exact Or.inr ⟨c,h1,q,hq,by omega⟩
  ·exact Or.inr h1
theorem mE (f:Nat->Rat) (W j:Nat):((List.range W).map f).getD j 0=if j<W then f j else 0:=by
 rw[List.getD_eq_getElem?_getD,List.getElem?_map];by_cases h:j<W
 ·rw[List.getElem?_range h,if_pos h];rfl
 ·rw[List.getElem?_eq_none (by simp;omega),if_neg h];rfl
theorem EG.less {m:List (List Rat)} {W n:Nat} {P:List Nat} (h:EG m W n P) (hP:P.length<n) (hW:n<=W) : ∃ X:List Rat,X.length=W/\EU m X/\(∀ j,n<=j->X.getD j 0=0) /\ ∃ j,X.getD j 0≠0:=by
 obtain ⟨c,qf,hc,hz⟩ : ∃ c,c<n/\(∀ i,i<c->P[i]? = some i) /\ ∀ i r,c<=i->m[i]? = some r -> ∀ j,j<=c->r.getD j 0=0:=by
  rcases h.gap P.length (Nat.le_refl _) with h1|⟨k,h1,p,h2,h3⟩
  ·exact ⟨P.length,hP,h1,λ i r hi hr j hj=>h.zr i r hi hr j (by omega)⟩
  ·refine ⟨k,Nat.lt_trans h3 (h.pb p (zM h2)),h1,λ i r hi hr j hj => ?_⟩
   by_cases e:i<P.length
   ·obtain ⟨q,hq⟩ : ∃ q,P[i]? = some q:=⟨_,zE e⟩
    refine (h.nz i q r hq hr).2 j ?_;by_cases e2:i=k
    ·subst e2
     obtain rfl:=Option.some.inj (h2.symm.trans hq);omega
    ·have:=h.inc k i p q (by omega) h2 hq
     omega
   ·exact h.zr i r (by omega) hr j (by have:=h.pb p (zM h2);omega)
 obtain ⟨y,hy⟩:=Ym (h.Qb hc) (λ i=>A2 m i c) c (Nat.le_refl c);have hg : ∀ j,((List.range W).map λ j=>if j<c then y j else if j=c then (-1:Rat) else 0).getD j 0=if j<c then y j else if j=c then (-1:Rat) else 0:=λ j=>by
  rw[mE];by_cases e:j<W
  ·rw[if_pos e]
  ·rw[if_neg e,if_neg (by omega),if_neg (by omega)]
 refine ⟨(List.range W).map λ j=>if j<c then y j else if j=c then (-1:Rat) else 0,by simp,λ r hr => ?_,λ j hj => ?_,c,?_⟩
 ·obtain ⟨i,hi⟩:=List.getElem?_of_mem hr
  rw[Wn hi (h.lr r hr) (show c+1<=W by omega) λ j hj=>by rw[hg,if_neg (by omega),if_neg (by omega)],B6,hg,if_neg (Nat.lt_irrefl c),if_pos rfl];by_cases e:i<c
  ·rw[vQ c (g:=λ j=>A2 m i j*y j) λ j hj=>by rw[hg,if_pos hj],hy i (by omega) e];grind
  ·rw[eF c λ j hj=>by rw[OW hi,hz i r (by omega) hi j (by omega),Rat.zero_mul],OW hi,hz i r (by omega) hi c (Nat.le_refl c),Rat.zero_mul,Rat.add_zero]
 ·rw[hg,if_neg (by omega),if_neg (by omega)]
 ·rw[hg,if_neg (Nat.lt_irrefl c),if_pos rfl]
  decide
def fJ (m a:List (List Rat)):Prop:=m.length=a.length /\ ∀ (i:Nat) (r:List Rat),a[i]? = some r -> ∃ s:Rat,s≠0/\m[i]? = some (r.map (· * s))
theorem cV (x:Rat) : ∀ a b:List Rat,A4 (a.map (· * x)) b=A4 a b*x
 | [],b=>by simp [A4]
 | a::l,[]=>by rw[cU,cU,Rat.zero_mul]
 | a::l,b::k=>by
  simp only[List.map_cons,A4,cV x l k];grind
theorem fJ.mo {m a:List (List Rat)} (h:fJ m a) (X:List Rat):EU m X↔EU a X:=by
 constructor
 ·intro hk r hr
  obtain ⟨i,hi⟩:=List.getElem?_of_mem hr;obtain ⟨s,hs,hm⟩:=h.2 i r hi;have:=hk _ (zM hm)
  rw[cV]at this;rcases Rat.mul_eq_zero.1 this with h|h
  ·exact h
  ·exact absurd h hs
 ·intro hk r hr
  obtain ⟨i,hi⟩:=List.getElem?_of_mem hr;obtain ⟨q,hq⟩ : ∃ q,a[i]? = some q:=⟨_,zE (by have:=(zS hi).1;have:=h.1;omega)⟩;obtain ⟨s,hs,hm⟩:=h.2 i q hq;obtain rfl:=Option.some.inj (hi.symm.trans hm);rw[cV,hk q (zM hq),Rat.zero_mul]
def CO (a b:List (List Rat)):List (List Rat):=List.zipWith (· ++ ·) a b
def NS (n:Nat) (a:List (List Rat)):Prop := ∀ X:List Rat,X.length=n->EU a X -> ∀ j,X.getD j 0=0
theorem S4 : ∀ (u y v z:List Rat),u.length=y.length->A4 (u++v) (y++z)=A4 u y+A4 v z
 | [],[],v,z,_=>by simp [A4,Rat.zero_add]
 | x::u,w::y,v,z,h=>by
  simp only[List.cons_append,A4,S4 u y v z (by simpa using h)];grind
theorem ZS {a b:List (List Rat)} {i:Nat} {r s:List Rat} (hr:a[i]? = some r) (hs:b[i]? = some s):(CO a b)[i]? = some (r++s):=by
 simp [CO,List.getElem?_zipWith,hr,hs]
theorem sP {n:Nat} {a b:List (List Rat)} (hl:a.length=b.length) (ha : ∀ r∈a,r.length=n) (y z:List Rat) (hy:y.length=n):EU (CO a b) (y++z) ↔ ∀ (i:Nat) (r s:List Rat),a[i]? = some r->b[i]? = some s->A4 r y+A4 s z=0:=by
 constructor
 ·intro h i r s hr hs
  rw[<-S4 r y s z (by rw[ha r (zM hr),hy])];exact h _ (zM (ZS hr hs))
 ·intro h q hq
  obtain ⟨i,hi⟩:=List.getElem?_of_mem hq;have ak:=(zS hi).1;simp only[CO,List.length_zipWith]at ak;obtain ⟨r,hr⟩ : ∃ r,a[i]? = some r:=⟨_,zE (by omega)⟩;obtain ⟨s,hs⟩ : ∃ s,b[i]? = some s:=⟨_,zE (by omega)⟩;obtain rfl:=Option.some.inj ((ZS hr hs).symm.trans hi);rw[S4 r y s z (by rw[ha r (zM hr),hy])];exact h i r s hr hs
theorem Aif {X:List Rat} (h : ∀ j,X.getD j 0=0) (r:List Rat):A4 r X=0:=by
 rw[lH r X r.length (Nat.le_refl _)];exact eF _ λ j _=>by rw[h,Rat.mul_zero]
theorem Amx {m a b:List (List Rat)} {w n:Nat} {P:List Nat} (h:EG m (n+w) n P) (hk : ∀ X,EU m X↔EU (CO a b) X) (hl:a.length=b.length) (ha : ∀ r∈a,r.length=n):P.length=n↔NS n a:=by
 constructor
 ·intro hP X hX hka j
  have h1:EU m (X++List.replicate w 0):=(hk _).2 ((sP hl ha X _ hX).2 λ i r s hr hs=>by
   rw[hka r (zM hr),cW,Rat.add_zero])
  by_cases e:j<n
  ·have h2:=h.full hP (by omega) h1 (λ j hj=>by
    rw[List.getD_eq_getElem?_getD,List.getElem?_append_right (by omega),List.getElem?_replicate];split<;>rfl) j
   rw[List.getD_eq_getElem?_getD,List.getElem?_append_left (by omega)]at h2;rw[List.getD_eq_getElem?_getD];exact h2
  ·rw[List.getD_eq_getElem?_getD,List.getElem?_eq_none (by omega)];rfl
 ·intro gl
  have h1:=h.le;rcases Nat.lt_or_ge P.length n with hP|hP
  ·exfalso
   obtain ⟨X,hX,hX1,hX2,j,hj⟩:=h.less hP (by omega);have h2:=(hk _).1 hX1;rw[<-List.take_append_drop n X]at h2;have cp:(X.take n).length=n:=by simp;omega
   have h3:=(sP hl ha _ _ cp).1 h2;have hz : ∀ q,(X.drop n).getD q 0=0:=λ q=>by
    have:=hX2 (n+q) (by omega)
    rw[List.getD_eq_getElem?_getD]at this;rw[List.getD_eq_getElem?_getD,List.getElem?_drop];exact this
   have h4:=gl (X.take n) cp (λ r hr=>by
    obtain ⟨i,hi⟩:=List.getElem?_of_mem hr;obtain ⟨s,hs⟩ : ∃ s,b[i]? = some s:=⟨_,zE (by have:=(zS hi).1;omega)⟩;have:=h3 i r s hi hs
    rw[Aif hz,Rat.add_zero]at this;exact this) j
   by_cases e:j<n
   ·rw[List.getD_eq_getElem?_getD,List.getElem?_take_of_lt e,<-List.getD_eq_getElem?_getD]at h4
    exact hj h4
   ·exact hj (hX2 j (by omega))
  ·omega
def mP (w c:Nat):List Rat:=(List.range w).map λ q=>if q=c then -1 else 0
theorem Sd {r:List Rat} {w c:Nat} (hr:r.length=w) (hc:c<w):A4 r (mP w c) = - r.getD c 0:=by
 rw[lH r _ w (by omega),vR w hc λ j hj hn=>by rw[mP,mE,if_pos hj,if_neg hn,Rat.mul_zero],mP,mE,if_pos hc,if_pos rfl];grind
theorem Agz {m a b:List (List Rat)} {w n c:Nat} {y:List Rat} (hk : ∀ X,EU m X↔EU (CO a b) X) (hl:a.length=b.length) (ha : ∀ r∈a,r.length=n) (hb : ∀ r∈b,r.length=w) (hc:c<w) (hy:y.length=n) (hm : ∀ r∈m,r.length=n+w) (hs : ∀ r∈m,A4 (r.take n) y=r.getD (n+c) 0) {i:Nat} {r s:List Rat} (hr:a[i]? = some r) (hi:b[i]? = some s):A4 r y=s.getD c 0:=by
 have h1:EU m (y++mP w c):=λ q hq=>by
  have Ah:=hm q hq;have e:q=q.take n++q.drop n:=(List.take_append_drop n q).symm;rw[e,S4 _ _ _ _ (by rw[List.length_take,hy];omega),hs q hq,Sd (by rw[List.length_drop];omega) hc];have:(q.drop n).getD c 0=q.getD (n+c) 0:=by rw[List.getD_eq_getElem?_getD,List.getElem?_drop,<-List.getD_eq_getElem?_getD]
  rw[this];grind
 have h2:=(sP hl ha y _ hy).1 ((hk _).1 h1) i r s hr hi;rw[Sd (hb s (zM hi)) hc]at h2;grind
end Go.e8
namespace Go.e8
theorem Bt.Pu {k:Nat} {y:Rat} (h:Bt k y):Bt k y⁻¹:=by
 rw[Rat.inv_def];rcases Int.natAbs_eq y.num with e|e
 ·rw[e,Rat.divInt_ofNat]
  exact Bt.mk (by simpa using h.2) h.1
 ·rw[e,Rat.divInt_neg',Rat.divInt_ofNat]
  exact Bt.mk (by simpa using h.2) h.1
theorem Bt.wj {k l:Nat} {x y:Rat} (hx:Bt k x) (hy:Bt l y):Bt (k+l) (x/y):=by
 rw[Rat.div_def];exact hx.mul hy.Pu
theorem Bt.yd {k:Nat} {x:Rat} (h:Bt k x):Bt k (-x):=⟨by rw[Rat.neg_num,Int.natAbs_neg];exact h.1,by rw[Rat.neg_den];exact h.2⟩
theorem Bt.ia {k l:Nat} {x y:Rat} (hx:Bt k x) (hy:Bt l y):Bt (k+l+1) (x-y):=by
 rw[Rat.sub_eq_add_neg];exact hx.add hy.yd
theorem Bt.Fq {k:Nat} {x p y f l:Rat} (hx:Bt k x) (hp:Bt k p) (hy:Bt k y) (hf:Bt k f) (hl:Bt k l):Bt (5*k+1) ((x*p-y*f)/l) :=
 (((hx.mul hp).ia (hy.mul hf)).wj hl).le (by omega)
theorem zA {p f l:Rat} : ∀ {r t:List Rat} {z:Rat},z∈comb p f l r t -> ∃ x∈r,∃ y∈t,z=(x*p-y*f)/l
 | [],_,z,h=>by simp [comb]at h
 | _::_,[],z,h=>by simp [comb]at h
 | x::r,y::t,z,h=>by
  simp only[comb,List.zipWith_cons_cons,List.mem_cons]at h;rcases h with h|h
  ·exact ⟨x,List.mem_cons_self,y,List.mem_cons_self,h⟩
  ·obtain ⟨a,ha,b,hb,e⟩:=zA (r:=r) (t:=t) h
   exact ⟨a,List.mem_cons_of_mem _ ha,b,List.mem_cons_of_mem _ hb,e⟩
theorem Bs.comb {k:Nat} {r t:List Rat} {p f l:Rat} (hr:Bs k r) (ht:Bs k t) (hp:Bt k p) (hf:Bt k f) (hl:Bt k l):Bs (5*k+1) (comb p f l r t):=λ z hz=>by
 obtain ⟨x,hx,y,hy,rfl⟩:=zA hz;exact Bt.Fq (hr x hx) hp (ht y hy) hf hl
theorem pW {p f l:Rat} : ∀ {r t:List Rat},r.length=t.length -> ∀ j,(comb p f l r t).getD j 0=(r.getD j 0*p-t.getD j 0*f)/l
 | [],[],_,j=>by simp [comb,Rat.div_def,Rat.zero_mul,Rat.sub_eq_add_neg,Rat.neg_zero,Rat.add_zero]
 | x::r,y::t,_,0=>by simp [comb]
 | x::r,y::t,h,j+1=>by
  have:=pW (p:=p) (f:=f) (l:=l) (r:=r) (t:=t) (by simpa using h) j
  simp only[comb]at this;simpa [comb] using this
def X1 (s x:Rat):Rat:=s*(((s*x).den:Nat):Rat)
def C1 (r:List Rat):Rat:=r.foldl X1 1
theorem Vm (r:List Rat) (x:Rat):C1 (r++[x])=X1 (C1 r) x:=by rw[C1,List.foldl_append];rfl
theorem AmY {s x:Rat} (h:s≠0):X1 s x≠0:=by
 intro e;rcases Rat.mul_eq_zero.1 e with e|e
 ·exact h e
 ·have:=(s*x).den_pos
  have:((s*x).den:Rat)=((0:Nat):Rat):=e
  have:=Rat.natCast_inj.1 this
  omega
theorem AmZ (r:List Rat):C1 r≠0:=by
 have : ∀ (r:List Rat) (s:Rat),s≠0->r.foldl X1 s≠0:=by
  intro r;induction r with
  | nil=>intro s h;exact h
  | cons x r ih=>intro s h;exact ih _ (AmY h)
 exact this r 1 (by decide)
def whole (m:List (List Rat)):List (List Rat):=m.map λ r=>r.map (· * C1 r)
theorem AnT (m:List (List Rat)):fJ (whole m) m:=⟨by simp [whole],λ i r hr=>⟨C1 r,AmZ r,by simp [whole,hr]⟩⟩
theorem AnS {m:List (List Rat)} {W:Nat} (h : ∀ r∈m,r.length=W) : ∀ r∈whole m,r.length=W:=λ r hr=>by
 obtain ⟨q,hq,rfl⟩:=List.mem_map.1 hr;simpa using h q hq
def JI:List (List Rat)->List Nat->Rat
 | r::m,p::P=>r.getD p 0*JI m P
 | _,_=>1
theorem iL : ∀ m,JI m []=1
 | []=>rfl
 | _::_=>rfl
theorem mV : ∀ (m:List (List Rat)) (P:List Nat) (i:Nat) (x:List Rat),P.length<=i->JI (m.set i x) P=JI m P
 | [],_,_,_,_=>rfl
 | _::_,[],_,_,_=>by rw[iL,iL]
 | r::m,p::P,0,x,h=>by simp at h
 | r::m,p::P,i+1,x,h=>by
  rw[List.set_cons_succ,JI,JI,mV m P i x (by simpa using h)]
theorem Vp (c:Nat) (t:List Rat) : ∀ (m:List (List Rat)) (P:List Nat),m[P.length]? = some t->JI m (P++[c])=JI m P*t.getD c 0
 | [],_,h=>by simp at h
 | r::m,[],h=>by
  obtain rfl:r=t:=by simpa using h
  rw[List.nil_append,JI,iL,iL,Rat.mul_one,Rat.one_mul]
 | r::m,p::P,h=>by
  rw[List.cons_append,JI,JI,Vp c t m P (by simpa using h),Rat.mul_assoc]
structure wK (n W:Nat) (u:Rat) (D:List (List Rat)->Rat):Prop where
 sw : ∀ (m:List (List Rat)) (i k:Nat) (a b:List Rat),m.length=n->(∀ r∈m,r.length=W)->m[i]? = some a->m[k]? = some b->i≠k->D ((m.set i b).set k a) = -D m
 ad : ∀ (m:List (List Rat)) (i k:Nat) (r t:List Rat) (p f l:Rat),m.length=n->(∀ r∈m,r.length=W)->m[i]? = some r->m[k]? = some t->i≠k->l≠0->D (m.set i (comb p f l r t))=D m*(p/l)
 sc : ∀ (m:List (List Rat)) (i:Nat) (r:List Rat) (s:Rat),m.length=n->(∀ r∈m,r.length=W)->m[i]? = some r->D (m.set i (r.map (· * s)))=D m*s
 tr : ∀ m:List (List Rat),m.length=n->(∀ r∈m,r.length=W)->cL (A2 m) n->D m=JI m (List.range n)*u
def iV (b:Bool):Rat:=bif b then -1 else 1
theorem Am2 (b:Bool):iV (!b) = -iV b:=by cases b<;>decide
theorem Xg : ∀ n:Nat,(1:Rat)^n=1
 | 0=>Rat.pow_zero 1
 | n+1=>by rw[Rat.pow_succ,Xg n,Rat.mul_one]
theorem Vw {l:Rat} (h:l≠0) : ∀ n:Nat,l^n≠0
 | 0=>by rw[Rat.pow_zero];decide
 | n+1=>by
  rw[Rat.pow_succ];intro e;rcases Rat.mul_eq_zero.1 e with e|e
  ·exact Vw h n e
  ·exact h e
theorem AlW {a b c:Rat} (h:c≠0) (e:a*c=b*c):a=b:=by
 have h1:=Rat.mul_inv_cancel c h;have:a*c*c⁻¹=b*c*c⁻¹:=by rw[e]
 rwa [Rat.mul_assoc,Rat.mul_assoc,h1,Rat.mul_one,Rat.mul_one]at this
structure G9 (m0:List (List Rat)) (K W dw:Nat) (m:List (List Rat)) (P:List Nat) (c:Nat) (odd:Bool) (l:Rat):Prop where
 bf:EG m W c P
 len:m.length=m0.length
 cc:c<=dw
 l0:l≠0
 mo : ∀ X,EU m X↔EU m0 X
 ms:Ms (6^P.length*K) m
 bl:Bt (6^P.length*K) l
 dt : ∀ (u:Rat) (D:List (List Rat)->Rat),wK m0.length W u D->D m*l=iV odd*D m0*JI m P*l^(m0.length-P.length)
theorem G9.start {m0:List (List Rat)} {K W dw:Nat} (h : ∀ r∈m0,r.length=W) (hb:Ms K m0):G9 m0 K W dw m0 [] 0 false 1 :=
 ⟨EG.start h,rfl,Nat.zero_le _,by decide,λ_=>Iff.rfl,by simpa using hb,Bt.one _,λ u D _=>by rw[iL,Xg,Rat.mul_one,Rat.mul_one,Rat.mul_one];exact (Rat.one_mul _).symm⟩
section
variable {m0 m:List (List Rat)} {K W dw c:Nat} {P:List Nat} {odd:Bool} {l:Rat}
theorem G9.skip (h:G9 m0 K W dw m P c odd l) (hc:c<dw) (hz : ∀ (i:Nat) (r:List Rat),P.length<=i->m[i]? = some r->r.getD c 0=0):G9 m0 K W dw m P (c+1) odd l :=
 ⟨h.bf.skip hz,h.len,hc,h.l0,h.mo,h.ms,h.bl,h.dt⟩
theorem G9.swap {i k:Nat} {a b:List Rat} (h:G9 m0 K W dw m P c odd l) (hi:m[i]? = some a) (hk:m[k]? = some b) (h1:P.length<=i) (h2:P.length<=k) (hn:i≠k):G9 m0 K W dw ((m.set i b).set k a) P c (!odd) l :=
 ⟨h.bf.swap hi hk h1 h2,by simpa using h.len,h.cc,h.l0,λ X=>(Alr hi hk X).trans (h.mo X),λ r hr=>by
  rcases XW hr with rfl|⟨j,_,hj⟩
  ·exact h.ms.at hi
  ·rcases XW (zM hj) with rfl|⟨q,_,hq⟩
   ·exact h.ms.at hk
   ·exact h.ms.at hq,h.bl,λ u D hD=>by
  rw[hD.sw m i k a b h.len h.bf.lr hi hk hn,Am2,mV _ _ _ _ h2,mV _ _ _ _ h1,Rat.neg_mul,h.dt u D hD,Rat.neg_mul,Rat.neg_mul,Rat.neg_mul]⟩
structure YC (m0:List (List Rat)) (K W dw:Nat) (P:List Nat) (c:Nat) (odd:Bool) (l:Rat) (t:List Rat) (m:List (List Rat)) (i:Nat):Prop where
 bf:EG m W c P
 len:m.length=m0.length
 cc:c<dw
 l0:l≠0
 mo : ∀ X,EU m X↔EU m0 X
 ht:m[P.length]? = some t
 nt:t.getD c 0≠0
 lo : ∀ q r,q<i->m[q]? = some r->Bs (5*(6^P.length*K)+1) r
 hi : ∀ q r,i<=q->m[q]? = some r->Bs (6^P.length*K) r
 bt:Bs (6^P.length*K) t
 bl:Bt (6^P.length*K) l
 z : ∀ q r,P.length<q->q<i->m[q]? = some r->r.getD c 0=0
 dt : ∀ (u:Rat) (D:List (List Rat)->Rat),wK m0.length W u D->D m*l*l^(i-P.length-1)=iV odd*D m0*JI m P*l^(m0.length-P.length)*t.getD c 0^(i-P.length-1)
theorem G9.swp {t:List Rat} (h:G9 m0 K W dw m P c odd l) (hc:c<dw) (ht:m[P.length]? = some t) (hn:t.getD c 0≠0):YC m0 K W dw P c odd l t m (P.length+1) :=
 ⟨h.bf,h.len,hc,h.l0,h.mo,ht,hn,λ q r _ hr=>(h.ms.at hr).le (by omega),λ q r _ hr=>h.ms.at hr,h.ms.at ht,h.bl,λ q r h1 h2 _=>absurd h1 (by omega),λ u D hD=>by
  rw[show P.length+1-P.length-1=0 by omega,Rat.pow_zero,Rat.pow_zero,Rat.mul_one,Rat.mul_one];exact h.dt u D hD⟩
theorem YC.step {t r:List Rat} {i:Nat} (h:YC m0 K W dw P c odd l t m i) (hi:P.length<i) (hr:m[i]? = some r):YC m0 K W dw P c odd l t (m.set i (comb (t.getD c 0) (r.getD c 0) l r t)) (i+1):=by
 have ak:=(zS hr).1;have hl:r.length=t.length:=by rw[h.bf.lr r (zM hr),h.bf.lr t (zM h.ht)]
 have hg : ∀ j,(comb (t.getD c 0) (r.getD c 0) l r t).getD j 0=(r.getD j 0*t.getD c 0-t.getD j 0*r.getD c 0)/l:=pW hl;have ib : ∀ (q:Nat) (x:List Rat),(m.set i (comb (t.getD c 0) (r.getD c 0) l r t))[q]? = some x->(q=i/\x=comb (t.getD c 0) (r.getD c 0) l r t)\/(q≠i/\m[q]? = some x):=λ q x hx=>by
  rw[List.getElem?_set]at hx;by_cases e:i=q
  ·rw[if_pos e,if_pos ak]at hx
   exact Or.inl ⟨e.symm,(Option.some.inj hx).symm⟩
  ·rw[if_neg e]at hx
   exact Or.inr ⟨Ne.symm e,hx⟩
 have Gk:=h.hi i r (Nat.le_refl i) hr;have htc:Bt (6^P.length*K) (t.getD c 0):=by
  have:Ms (6^P.length*K) [t]:=λ x hx=>by obtain rfl:=List.mem_singleton.1 hx;exact h.bt
  exact this.getD 0 c
 have yv:Bt (6^P.length*K) (r.getD c 0):=by
  have:Ms (6^P.length*K) [r]:=λ x hx=>by obtain rfl:=List.mem_singleton.1 hx;exact Gk
  exact this.getD 0 c
 have fg : ∀ j,j<=c->(comb (t.getD c 0) (r.getD c 0) l r t).getD j 0=0:=λ j hj=>by
  rw[hg];by_cases e:j=c
  ·subst e;rw[Rat.div_def];grind
  ·rw[h.bf.zr i r (by omega) hr j (by omega),h.bf.zr P.length t (Nat.le_refl _) h.ht j (by omega),Rat.div_def];grind
 refine ⟨⟨λ x hx => ?_,by simpa using h.bf.pl,h.bf.inc,h.bf.pb,λ q p x hp hx => ?_,λ q x hq hx j hj => ?_⟩,by simpa using h.len,h.cc,h.l0,λ X=>(Als hr h.ht (by omega) hl h.nt h.l0 X).trans (h.mo X),?_,h.nt,λ q x hq hx => ?_,λ q x hq hx => ?_,h.bt,h.bl,λ q x h1 h2 hx => ?_,λ u D hD => ?_⟩
 ·rcases XW hx with rfl|⟨j,_,hj⟩
  ·rw[yZ hl];exact h.bf.lr r (zM hr)
  ·exact h.bf.lr x (zM hj)
 ·have yu:=(zS hp).1
  rcases ib q x hx with ⟨rfl,_⟩|⟨_,hx⟩
  ·omega
  ·exact h.bf.nz q p x hp hx
 ·rcases ib q x hx with ⟨rfl,rfl⟩|⟨_,hx⟩
  ·exact fg j (by omega)
  ·exact h.bf.zr q x hq hx j hj
 ·rw[List.getElem?_set,if_neg (by omega)];exact h.ht
 ·rcases ib q x hx with ⟨rfl,rfl⟩|⟨m9,hx⟩
  ·exact Gk.comb h.bt htc yv h.bl
  ·exact h.lo q x (by omega) hx
 ·rcases ib q x hx with ⟨rfl,rfl⟩|⟨m9,hx⟩
  ·omega
  ·exact h.hi q x (by omega) hx
 ·rcases ib q x hx with ⟨rfl,rfl⟩|⟨m9,hx⟩
  ·exact fg c (Nat.le_refl c)
  ·exact h.z q x h1 (by omega) hx
 ·have hd:=h.dt u D hD
  have Gu:=Rat.div_mul_cancel h.l0 (a:=t.getD c 0);rw[hD.ad m i P.length r t _ _ l h.len h.bf.lr hr h.ht (by omega) h.l0,mV _ _ _ _ (by omega),show i+1-P.length-1=(i-P.length-1)+1 by omega,Rat.pow_succ,Rat.pow_succ];rw[show D m*(t.getD c 0/l)*l*(l^(i-P.length-1)*l)=D m*l*l^(i-P.length-1)*(t.getD c 0/l*l) by grind,hd,Gu,Rat.mul_assoc]
theorem Vu (hK:1<=K) (p:Nat):5*(6^p*K)+1<=6^(p+1)*K:=by
 have h1:1<=6^p*K:=Nat.mul_pos (Nat.pow_pos (by omega)) hK;have e:6^(p+1)*K=6*(6^p*K):=by rw[Nat.pow_succ,Nat.mul_comm (6^p) 6,Nat.mul_assoc]
 omega
theorem tW {p n B:Nat} (h:6^n*K<=B) (hp:p<=n):6^p*K<=B :=
 Nat.le_trans (Nat.mul_le_mul_right K (Nat.pow_le_pow_right (by omega) hp)) h
theorem YC.done {t:List Rat} {i:Nat} (hK:1<=K) (h:YC m0 K W dw P c odd l t m i) (hi:i=m.length):G9 m0 K W dw m (P++[c]) (c+1) odd (t.getD c 0):=by
 have e:(P++[c]).length=P.length+1:=by simp
 have h6:=Vu hK P.length;refine ⟨h.bf.Iw h.ht h.nt λ q r hq hr=>h.z q r hq (hi ▸ (zS hr).1) hr,h.len,h.cc,h.nt,h.mo,?_,?_,λ u D hD => ?_⟩
 ·rw[e]
  intro r hr;obtain ⟨q,hq⟩:=List.getElem?_of_mem hr;exact (h.lo q r (hi ▸ (zS hq).1) hq).le h6
 ·rw[e]
  have:Ms (6^P.length*K) [t]:=λ x hx=>by obtain rfl:=List.mem_singleton.1 hx;exact h.bt
  exact (this.getD 0 c).le (by omega)
 ·have hd:=h.dt u D hD
  have vk:=(zS h.ht).1;have hlen:=h.len;rw[Vp c t m P h.ht,e];rw[hi,hlen,show m0.length-P.length=(m0.length-P.length-1)+1 by omega,Rat.pow_succ,Nat.add_sub_cancel]at hd;rw[show m0.length-(P.length+1)=m0.length-P.length-1 by omega];have hp:=Vw h.l0 (m0.length-P.length-1);generalize l^(m0.length-P.length-1)=x at *;generalize t.getD c 0=p at *;generalize p^(m0.length-P.length-1)=y at *;have h0:=h.l0;have h1:D m=iV odd*D m0*JI m P*y:=AlW (c:=l*x) (λ e=>by
   rcases Rat.mul_eq_zero.1 e with e|e
   ·exact h0 e
   ·exact hp e) (by grind)
  rw[h1];grind
end
def EW (c:Nat) (l:Rat):List (List Rat)->Nat->List Rat
 | [],_=>[]
 | r::m,i=>(r.getD c 0*l-A4 (r.drop (i+1)) (EW c l m (i+1)))/r.getD i 0::EW c l m (i+1)
theorem YD (c:Nat) (l:Rat) : ∀ (m:List (List Rat)) (i:Nat),(EW c l m i).length=m.length
 | [],_=>rfl
 | r::m,i=>by rw[EW,List.length_cons,YD c l m (i+1),List.length_cons]
theorem Aij (r:List Rat) (i:Nat) (h:i<r.length):r.drop i=r.getD i 0::r.drop (i+1):=by
 rw[List.drop_eq_getElem_cons h,List.getD_eq_getElem?_getD,zE h];rfl
theorem xT (c:Nat) (l:Rat) : ∀ (m:List (List Rat)) (i k:Nat) (r:List Rat),m[k]? = some r->i+k<r.length->r.getD (i+k) 0≠0->A4 (r.drop (i+k)) ((EW c l m i).drop k)=r.getD c 0*l
 | q::m,i,0,r,h,hl,h0=>by
  obtain rfl:q=r:=by simpa using h
  rw[Nat.add_zero]at hl h0 ⊢;rw[Aij q i hl,EW,List.drop_zero,A4];have:=Rat.div_mul_cancel h0 (a:=q.getD c 0*l-A4 (q.drop (i+1)) (EW c l m (i+1)))
  grind
 | q::m,i,k+1,r,h,hl,h0=>by
  rw[EW,List.drop_succ_cons,show i+(k+1)=i+1+k by omega];exact xT c l m (i+1) k r (by simpa using h) (by omega) (by rw[show i+1+k=i+(k+1) by omega];exact h0)
 | [],_,_,_,h,_,_=>by simp at h
theorem Rz : ∀ (i:Nat) (r x:List Rat),(∀ j,j<i->r.getD j 0=0)->A4 r x=A4 (r.drop i) (x.drop i)
 | 0,_,_,_=>rfl
 | i+1,[],x,_=>by simp [A4]
 | i+1,r::rs,[],_=>by rw[cU,List.drop_nil,cU]
 | i+1,r::rs,x::xs,h=>by
  have h0:r=0:=by simpa using h 0 (by omega)
  rw[A4,h0,Rat.zero_mul,Rat.zero_add,List.drop_succ_cons,List.drop_succ_cons];exact Rz i rs xs λ j hj=>by simpa using h (j+1) (by omega)
theorem Agd {c n:Nat} {l:Rat} {m:List (List Rat)} (hn : ∀ r∈m,n<=r.length) (hm:m.length=n) (ht:cL (A2 m) n) (r:List Rat) (hr:r∈m):A4 r (EW c l m 0)=r.getD c 0*l:=by
 obtain ⟨k,hk⟩:=List.getElem?_of_mem hr;have qi:=(zS hk).1;have h1:=ht k (by omega);have h2:=xT c l m 0 k r hk (by have:=hn r hr;omega) (by rw[Nat.zero_add,<-OW hk];exact h1.1);rw[Rz k r _ λ j hj=>by rw[<-OW hk];exact h1.2 j hj,<-h2,Nat.zero_add]
def FD (S n:Nat):Nat->Nat
 | 0=>0
 | t+1=>3*S+n*(S+FD S n t+1)
theorem pK (S n:Nat) : ∀ t,FD S n t<=FD S n (t+1)
 | 0=>Nat.zero_le _
 | t+1=>by
  rw[FD,FD];have:=Nat.mul_le_mul_left n (show S+FD S n t+1<=S+FD S n (t+1)+1 by have:=pK S n t;omega)
  omega
theorem yA (S n:Nat) {t u:Nat} (h:t<=u):FD S n t<=FD S n u:=by
 obtain ⟨d,rfl⟩:=Nat.exists_eq_add_of_le h;induction d with
 | zero=>exact Nat.le_refl _
 | succ d ih=>exact Nat.le_trans (ih (by omega)) (pK S n (t+d))
theorem Sc {k l:Nat} {a b:List Rat} (ha:Bs k a) (hb:Bs l b) {n:Nat} (hn:b.length<=n):Bt (n*(k+l+1)) (A4 a b):=by
 rw[S5];exact (hb.dot ha).le (Nat.le_trans (Nat.mul_le_mul_right _ hn) (Nat.le_of_eq (by rw[Nat.add_comm l k])))
theorem kN {S n c:Nat} {l:Rat} (hl:Bt S l) : ∀ (m:List (List Rat)) (i:Nat),m.length<=n->Ms S m->Bs (FD S n m.length) (EW c l m i)
 | [],_,_,_=>λ x hx=>by cases hx
 | r::m,i,hn,hm=>by
  have ih:=kN (c:=c) (n:=n) hl m (i+1) (by rw[List.length_cons]at hn;omega) (λ q hq=>hm q (List.mem_cons_of_mem _ hq));have hr:Bs S r:=hm r List.mem_cons_self;have hg : ∀ j,Bt S (r.getD j 0):=λ j=>by
   have:Ms S [r]:=λ x hx=>by obtain rfl:=List.mem_singleton.1 hx;exact hr
   exact this.getD 0 j
  have h1:=Sc (k:=S) (a:=r.drop (i+1)) (λ x hx=>hr x (List.mem_of_mem_drop hx)) ih (n:=n-1) (by rw[YD];rw[List.length_cons]at hn;omega);have h2:=(((hg c).mul hl).ia h1).wj (hg i);rw[List.length_cons];intro x hx;rw[EW]at hx;rcases List.mem_cons.1 hx with rfl|hx
  ·refine h2.le ?_
   rw[FD];obtain ⟨k,rfl⟩ : ∃ k,n=k+1:=⟨n-1,by rw[List.length_cons]at hn;omega⟩;have e:=Nat.succ_mul k (S+FD S (k+1) m.length+1);rw[Nat.succ_eq_add_one]at e;rw[Nat.add_sub_cancel];omega
  ·exact (ih x hx).le (pK S n m.length)
end Go.e8

namespace Go.e8
open F
attribute [local irreducible] AA AF AP AD CB AU AW BA A6 B2 AM BO B8 C8 BN A3 BX B9 AB A8 AJ pw BK BI CJ CK CU CR CI BT CT
variable {L:Lib}
set_option maxHeartbeats 16000000
def cw (n:Nat) (v:List Rat):List (Option Rat):=List.replicate (n-v.length) none++v.map some
theorem zK {n:Nat} {v:List Rat} (h:v.length<=n):(cw n v).length=n:=by simp [cw];omega
theorem AgY (n:Nat):cw n []=List.replicate n none:=by simp [cw]
theorem AgW {n s:Nat} {v:List Rat} {x:Rat} (h:v[s]? = some x):(cw n v)[n-v.length+s]? = some (some x):=by
 rw[cw,List.getElem?_append_right (by simp),List.length_replicate,Nat.add_sub_cancel_left,List.getElem?_map,h];rfl
theorem AgZ {n:Nat} {v:List Rat} {x:Rat} (h:v.length<n):(cw n v).set (n-(v.length+1)) (some x)=cw n (x::v):=by
 obtain ⟨k,hk⟩ : ∃ k,n-v.length=k+1:=⟨n-v.length-1,by omega⟩;have e:n-(v.length+1)=k:=by omega
 simp only[cw,hk,List.length_cons,e];rw[List.replicate_succ',List.append_assoc,List.set_append_right _ _ (by simp),List.length_replicate,Nat.sub_self];rfl
theorem AgX {n:Nat} {v:List Rat} (h:v.length=n):(cw n v).map eO=v.map eQ:=by
 simp [cw,h,Function.comp_def]
theorem ZQ {l:List Rat} {i:Nat} (h:i<l.length):l[i]? = some (l.getD i 0):=by
 rw[List.getD_eq_getElem?_getD,zE h];rfl
theorem AiR (N:ah L) (q q':Bool) (m:List (List Rat)) (n W c S:Nat) (l:Rat) (hm:m.length=n) (hW : ∀ r∈m,r.length=W) (hn:1<=n/\n<=1000) (hnW:n<=W) (hc:c<W) (Lr:W<=100000)
  (hd : ∀ (k:Nat) (r:List Rat),m[k]? = some r->r.getD k 0≠0) (mw:Ms S m) (hl:Bt S l) (hB:FD S n n<2199023255552):Ev L 234 [.sl q (CN q' m),.int .i64 c,.agg (eQ l)] (.sl false ((EW c l m 0).map eQ)):=by
 have hS:S<2199023255552:=by
  have:=yA S n (show 1<=n by omega)
  rw[FD]at this;omega
 refine Ev.x N.TN rfl rfl ?_;(repeat' ((first|apply AR|apply AE)<;>conv=>whnf))
 refine EV (enc:=eO) none n rfl (by omega) (by omega) ?_;(conv=>whnf)
 (repeat' ((first|(apply B3;omega)|apply AR)<;>conv=>whnf))
 rw[hm];refine BQ (λ k=>k) (λ(k:Nat)=>k<=n) (λ k=>[(8,.int .i64 ((k:Int)-1))]) (λ k=>[(13,13,.rw 3 ((cw n (EW c l (m.drop k) k)).map eO))]) [] [] n (by first|exact (by (conv=>whnf);exact ⟨rfl,rfl,rfl⟩)|(rw[List.drop_of_length_le (by omega),EW,AgY];exact (by (conv=>whnf);exact ⟨rfl,rfl,rfl⟩))) (by omega) ?_;intro k p1 kh;rcases k with _|k
 ·clear kh
  rw[List.drop_zero,AgX (by rw[YD];exact hm)];(repeat' ((first|(apply AG<;>intro hc<;>try (exfalso;omega))|apply AE)<;>conv=>whnf))
  refine DH (enc:=eQ) (λ_=>rfl) rfl (by rw[YD];omega) ?_;(conv=>whnf)
  exact AX rfl (by simp only[A0,true_and];exact IE _)
 ·obtain ⟨r,hr⟩ : ∃ r,m[k]? = some r:=⟨_,zE (by omega)⟩
  have ka:m[(k:Int).toNat]? = some r:=hr;have dp:=hW r (zM hr);have e1:((k+1:Nat):Int)-1=k:=by omega
  have hv:EW c l (m.drop k) k=(r.getD c 0*l-A4 (r.drop (k+1)) (EW c l (m.drop (k+1)) (k+1)))/r.getD k 0::EW c l (m.drop (k+1)) (k+1):=by
   obtain ⟨h1,h2⟩:=zS hr;rw[List.drop_eq_getElem_cons h1,EW,h2]
  have mn:(EW c l (m.drop (k+1)) (k+1)).length=n-(k+1):=by rw[YD,List.length_drop,hm]
  have va:Bs (FD S n (n-(k+1))) (EW c l (m.drop (k+1)) (k+1)):=by
   have:=kN (c:=c) (n:=n) hl (m.drop (k+1)) (k+1) (by rw[List.length_drop];omega) (λ r hr=>mw r (List.mem_of_mem_drop hr))
   rwa [List.length_drop,hm]at this
  have hB2:FD S n (n-(k+1)+1)<=FD S n n:=yA S n (by omega);rw[FD]at hB2;have kb:=mw.at hr;have yv:r[(c:Int).toNat]? = some (r.getD c 0):=ZQ (by omega);have Fb:r[(k:Int).toNat]? = some (r.getD k 0):=ZQ (by omega);have Oe:=hd k r hr;have bc:=kb.at yv;have bk:=kb.at Fb;have hM:=GT N.tob7 bc hl hS hS;generalize pe:r.getD c 0=rc at *;generalize AAd:r.getD k 0=rk at *;generalize EW c l (m.drop (k+1)) (k+1)=v at *;generalize FD S n (n-(k+1))=X at *;rw[e1];(repeat' ((first|(apply AG<;>intro hc<;>try (exfalso;omega))|(apply AY;omega)|(refine A9 (by assumption) ?_ rfl ?_;omega)|apply AE|refine AC (hM) ?_)<;>conv=>whnf))
  refine F8 (λ s _=>n-s) (λ(s:Nat) (acc:Rat)=>k+1+s<=n/\acc=rc*l-A4 ((r.drop (k+1)).take s) (v.take s)) (λ s _=>[(10,.int .i64 ((k+1+s:Nat):Int))]) (λ_ acc=>[(9,9,.bx (eQ acc))]) [] [] 0 (rc*l) (by (conv=>whnf);exact ⟨rfl,rfl,rfl⟩) ⟨by omega,by simp only[List.take_zero,A4];grind⟩ ?_;intro s acc ⟨p2,p3⟩ sh;have kj:Bt (2*S+(n-(k+1))*(S+X+1)+1) acc:=by
   rw[p3];have h1:=Sc (k:=S) (l:=X) (a:=(r.drop (k+1)).take s) (b:=v.take s) (n:=n-(k+1)) (λ x hx=>kb x (List.mem_of_mem_drop (List.mem_of_mem_take hx))) (va.take s) (by rw[List.length_take];omega);exact ((bc.mul hl).ia h1).le (by omega)
  have hmul:=Nat.mul_le_mul_right (S+X+1) (show n-(k+1)+1<=n by omega);rw[Nat.add_mul,Nat.one_mul]at hmul;have hX:X<2199023255552:=by
   have:=Nat.le_mul_of_pos_left (S+X+1) (show 0<n by omega)
   omega
  by_cases hs:k+1+s<n
  ·obtain ⟨x,hx⟩ : ∃ x,v[s]? = some x:=⟨_,zE (by omega)⟩
   obtain ⟨y,hy⟩ : ∃ y,r[k+1+s]? = some y:=⟨_,zE (by omega)⟩;have vt:r[((k+1+s:Nat):Int).toNat]? = some y:=hy;have Fh:(r.drop (k+1))[s]? = some y:=by rw[List.getElem?_drop];exact hy
   have od:=AgW (n:=n) hx;rw[mn,show n-(n-(k+1))+s=k+1+s by omega]at od;have o4:=zK (n:=n) (v:=v) (by omega);have Ei:=kb.at hy
   have bx:=va.at hx;have fm:=GT N.tob7 Ei bx hS hX
   have Gf:=gJ N.tow6 kj (Ei.mul bx) (by omega) (by
    have:=Nat.le_mul_of_pos_left (S+X+1) (show 0<n-(k+1) by omega)
    omega)
   have Mm:=gD Fh hx;generalize cw n v=C at *;(repeat' ((first|(apply AG<;>intro hc<;>try (exfalso;omega))|(apply AZ;omega)|apply AR|(refine A9 (by assumption) ?_ rfl ?_;omega)|apply AE)<;>conv=>whnf))
   refine cG (enc:=eO) (e:=some x) (by rw[Nat.zero_add];exact od) rfl ?_;(conv=>whnf)
   (repeat' ((first|(apply AY;omega)|refine AC (fm) ?_|refine AC (Gf) ?_)<;>conv=>whnf))
   refine B1 [] (by (conv=>whnf);exact ⟨rfl,rfl,rfl⟩) (sh (s+1) (acc-y*x) (by omega) ⟨by omega,?_⟩);rw[Mm,p3];grind
  ·obtain rfl:s=n-(k+1):=by omega
   clear sh;have Mm:acc=rc*l-A4 (r.drop (k+1)) v:=by
    rw[p3,S5,cT mn,S5]
   have hD:=lN N.tob7 kj bk (by omega) hS Oe;have jx:=AgZ (n:=n) (v:=v) (x:=acc/rk) (by omega);rw[mn,show n-(n-(k+1)+1)=k by omega]at jx;have o4:=zK (n:=n) (v:=v) (by omega);rw[<-Mm]at hv;rw[<-hv]at jx;generalize cw n v=C at *;(repeat' ((first|(apply AG<;>intro hc<;>try (exfalso;omega))|(apply AZ;omega)|apply AR|(refine A9 (by assumption) ?_ rfl ?_;omega)|apply AE|refine AC (hD) ?_)<;>conv=>whnf))
   refine FX (enc:=eO) (some (acc/rk)) rfl (λ e=>by cases e<;>rfl) (by omega) ?_;(conv=>whnf)
   rw[jx];(repeat' ((first|(apply B3;omega)|fail)<;>conv=>whnf))
   exact BF [] (kh k (by omega) (by omega))
end Go.e8

namespace Go.e8
variable {L:Lib}
def PQ:BH->Bool
 | .ret=>false
 | .dr c _ _=>PQ c
 | .scope c=>PQ c
 | .seq a b=>PQ a&&PQ b
 | .cond _ a b=>PQ a&&PQ b
 | .block _ c=>PQ c
 | .loop c=>PQ c
 | _=>true
def QF:It->Bool
 | .code c=>PQ c
 | .lp c=>PQ c
 | _=>true
theorem gN {id:Nat} {kk:List It} : ∀ {l l':List It},DX id l=some l'->DX id (l++kk)=some (l'++kk)
 | [],_,h=>by cases h
 | .j5 i::l,l',h=>by
  simp only[List.cons_append,DX]at h ⊢;split at h
  ·rename_i e;rw[if_pos e];cases h;rfl
  ·rename_i e;rw[if_neg e];exact gN h
 | .code c::l,l',h=>by
  simp only[List.cons_append,DX]at h ⊢;exact gN h
 | .mr a b::l,l',h=>by
  simp only[List.cons_append,DX]at h ⊢;exact gN h
 | .lp c::l,l',h=>by
  simp only[List.cons_append,DX]at h ⊢;exact gN h
theorem gL {id:Nat} {p:It->Bool} : ∀ {l l':List It},DX id l=some l'->l.all p=true->l'.all p=true
 | [],_,h,_=>by cases h
 | .j5 i::l,l',h,ha=>by
  simp only[DX]at h;simp only[List.all_cons,Bool.and_eq_true]at ha;split at h
  ·cases h;exact ha.2
  ·exact gL h ha.2
 | .code c::l,l',h,ha=>by
  simp only[DX]at h;simp only[List.all_cons,Bool.and_eq_true]at ha;exact gL h ha.2
 | .mr a b::l,l',h,ha=>by
  simp only[DX]at h;simp only[List.all_cons,Bool.and_eq_true]at ha;exact gL h ha.2
 | .lp c::l,l',h,ha=>by
  simp only[DX]at h;simp only[List.all_cons,Bool.and_eq_true]at ha;exact gL h ha.2
theorem J8 {C:Cl} {kk:List It} {m:Nat} {A7 BS:St} (hk:run C m kk A7=some BS) : ∀ (n:Nat) (l:List It) (st:St),l.all QF=true->run C n l st=some A7->run C (n+m) (l++kk) st=some BS
 | 0,_,_,_,h=>by cases h
 | n+1,[],st,_,h=>by
  simp only[run,Option.some.injEq]at h;subst h;exact OE (C:=C) (C':=C) ⟨λ_ _ _ h=>h,λ_ _ _ _ h=>h,rfl⟩ (by omega) hk
 | n+1,.j5 i::l,st,ha,h=>by
  simp only[List.all_cons,Bool.and_eq_true]at ha;rw[show n+1+m=n+m+1 by omega];simp only[List.cons_append,run]at h ⊢;exact J8 hk n l st ha.2 h
 | n+1,.mr ts ss::l,st,ha,h=>by
  simp only[List.all_cons,Bool.and_eq_true]at ha;rw[show n+1+m=n+m+1 by omega];simp only[List.cons_append,run]at h ⊢;exact J8 hk n l _ ha.2 h
 | n+1,.lp c::l,st,ha,h=>by
  rw[show n+1+m=n+m+1 by omega];simp only[List.cons_append,run]at h ⊢;exact J8 hk n (.code c :: .lp c::l) st (by simp only[List.all_cons,QF,Bool.and_eq_true]at ha ⊢;exact ⟨ha.1,ha.1,ha.2⟩) h
 | n+1,.code c::l,st,ha,h=>by
  simp only[List.all_cons,QF,Bool.and_eq_true]at ha;obtain ⟨h1,h2⟩:=ha;rw[show n+1+m=n+m+1 by omega];cases c with
  | ret=>cases h1
  | skip =>
   simp only[List.cons_append,run]at h ⊢;exact J8 hk n l st h2 h
  | ops o d =>
   simp only[List.cons_append,run]at h ⊢;cases hs:DC C o st with
   | none=>rw[hs]at h;cases h
   | some s'=>rw[hs]at h;exact J8 hk n l s' h2 h
  | dr c ts ss =>
   simp only[List.cons_append,run]at h ⊢;exact J8 hk n (.code c :: .mr ts ss::l) st (by simp only[List.all_cons,QF,Bool.and_eq_true];exact ⟨h1,trivial,h2⟩) h
  | scope c =>
   simp only[List.cons_append,run]at h ⊢;exact J8 hk n (.code c::l) st (by simp only[List.all_cons,QF,Bool.and_eq_true];exact ⟨h1,h2⟩) h
  | seq a b =>
   simp only[PQ,Bool.and_eq_true]at h1;simp only[List.cons_append,run]at h ⊢;exact J8 hk n (.code a :: .code b::l) st (by simp only[List.all_cons,QF,Bool.and_eq_true];exact ⟨h1.1,h1.2,h2⟩) h
  | cond x a b =>
   simp only[PQ,Bool.and_eq_true]at h1;simp only[List.cons_append,run]at h ⊢;split at h
   ·exact J8 hk n (.code a::l) st (by simp only[List.all_cons,QF,Bool.and_eq_true];exact ⟨h1.1,h2⟩) h
   ·exact J8 hk n (.code b::l) st (by simp only[List.all_cons,QF,Bool.and_eq_true];exact ⟨h1.2,h2⟩) h
   ·cases h
  | block i c =>
   simp only[List.cons_append,run]at h ⊢;exact J8 hk n (.code c :: .j5 i::l) st (by simp only[List.all_cons,QF,Bool.and_eq_true];exact ⟨h1,trivial,h2⟩) h
  | loop c =>
   simp only[List.cons_append,run]at h ⊢;exact J8 hk n (.code c :: .lp c::l) st (by simp only[List.all_cons,QF,Bool.and_eq_true];exact ⟨h1,h1,h2⟩) h
  | exit i =>
   simp only[List.cons_append,run]at h ⊢;cases he:DX i l with
   | none=>rw[he]at h;cases h
   | some l' =>
    rw[he]at h;rw[gN he];exact J8 hk n l' st (gL he h2) h
theorem bX {l kk:List It} {tm:Tm} {M:Mem} {Q:Tm->Mem->Prop} (hn:l.all QF=true) (h:AA L l tm M (λ tm M=>AA L kk tm M Q)):AA L (l++kk) tm M Q:=by
 intro σ st hr;obtain ⟨n,c,A7,h1,σ1,tm1,M1,bn,h2⟩:=h σ st hr;obtain ⟨m,c2,BS,h3,h4⟩:=h2 σ1 A7 bn;obtain ⟨c3,g1,g2⟩ : ∃ c3,(C3 L c).le (C3 L c3)/\(C3 L c2).le (C3 L c3):=⟨max c c2,FE (Nat.le_max_left _ _),FE (Nat.le_max_right _ _)⟩;exact ⟨n+m,c3,BS,J8 (OE g2 (Nat.le_refl _) h3) n l st hn (OE g1 (Nat.le_refl _) h1),h4⟩
structure jS (p:Prop):Prop where
 go ::
 out:p
theorem Aek {α β γ:Type} {l kk:List It} {tm:Tm} {M:Mem} {Q:Tm->Mem->Prop} (P:α->β->γ->Prop) (vs:α->β->γ->Tm) (Ms:α->β->γ->Mem) (ts:List Nat) (hn:l.all QF=true)
  (hr : ∀ a b c,P a b c->AA L kk (vs a b c++bg ts tm) (Ms a b c++M) Q)
  (h:(∀ a b c,P a b c->AA L kk (vs a b c++bg ts tm) (Ms a b c++M) Q)->AA L l tm M (λ tm M=>jS (AA L kk tm M Q))):AA L (l++kk) tm M Q:=by
 refine bX hn ?_;intro σ st hs;obtain ⟨n,c,A7,h1,σ1,tm1,M1,bn,h2⟩:=h hr σ st hs;exact ⟨n,c,A7,h1,σ1,tm1,M1,bn,h2.out⟩
end Go.e8

namespace Go.e8
open F
attribute [local irreducible] AA AF AP AD CB AU AW BA A6 B2 AM BO B8 C8 BN A3 BX B9 AB A8 AJ pw BK BI CJ CK CU CR CI BT CT
variable {L:Lib}
set_option maxHeartbeats 16000000
theorem qF:dg 1=[1]:=by rw[J0 (by decide)];simp [E2]
theorem Ai6 (N:b7 L) {s:Rat} {a l d:Nat} (q:Bool) (hs:Bt a s) (hd:d<=2^l) (ha:a<2199023255552) (hl:l<2199023255552):Ev L 99 [.agg (eQ s),.agg [.bool false,.sl false ((dg d).map AL),.sl q [[.int .u32 1]]]] (.agg (eQ (s*((d:Nat):Rat)))):=by
 have qh:Bt l ((d:Nat):Rat):=⟨by simpa using hd,by simpa using Nat.one_le_two_pow⟩;have e:=EN ((d:Nat):Rat);have h1:=(qh.sm hl).1;have h2:=(qh.sm hl).2;rw[Rat.num_natCast,Rat.den_natCast,Int.natAbs_natCast,show decide ((d:Int)<0)=false by simp,qF]at e;rw[Rat.num_natCast,Int.natAbs_natCast]at h1;rw[Rat.den_natCast,qF]at h2;have h:=rI N 68719476736 (by omega) (decide (s.num<0)) false false false false q _ _ (dg d) [1] (hs.sm ha).1 (hs.sm ha).2 h1 h2;rw[EN,e]at h;exact h
theorem Zr {N i k:Nat} (hk:k<N) : ∀ t,t∈(List.range N).set i k->t<N:=λ t ht=>by
 rcases List.mem_or_eq_of_mem_set ht with h|h
 ·exact List.mem_range.1 h
 ·omega
theorem YU {z:Nat} {m:List (List Rat)} {i:Nat} {r:List Rat} (h:m[i]? = some r):(BJ z eQ m)[i]? = some (some (z,r.map eQ)):=by
 rw[BJ,List.getElem?_map,h];rfl
theorem Wt {z:Nat} {m:List (List Rat)} {i j:Nat} {a b:List Rat}:((BJ z eQ m).set i (some (z,b.map eQ))).set j (some (z,a.map eQ))=BJ z eQ ((m.set i b).set j a):=by
 simp only[BJ,List.map_set]
theorem jR {R:List (Option (Nat × List (List AV)))} {e z:Nat} {es:List (List AV)} {K:Nat->List (List AV)->Prop} (h:R[e]? = some (some (z,es))) (hk:K z es):BI R e K:=by
 unfold BI;exact ⟨z,es,h,hk⟩
theorem uU {α:Type} {l:List α} {i:Nat} {x:α} (h:l[i]? = some x):l.set i x=l:=by
 obtain ⟨h1,rfl⟩:=zS h;exact List.set_getElem_self h1
theorem AlL {a b:List Rat} {c:Nat} (hl:a.length=b.length) (h : ∀ j,j<c->a.getD j 0=0/\b.getD j 0=0):a.take c++b.drop c=b:=by
 have e:a.take c=b.take c:=by
  refine List.ext_getElem? λ j => ?_
  rw[List.getElem?_take,List.getElem?_take];by_cases hj:j<c
  ·rw[if_pos hj,if_pos hj]
   obtain ⟨h1,h2⟩:=h j hj;rw[List.getD_eq_getElem?_getD]at h1 h2;by_cases ja:j<a.length
   ·rw[zE ja,zE (by omega)]at *
    simp only[Option.getD_some]at h1 h2;rw[h1,h2]
   ·rw[List.getElem?_eq_none (by omega),List.getElem?_eq_none (by omega)]
  ·rw[if_neg hj,if_neg hj]
 rw[e,List.take_append_drop]
theorem AlJ {a b:List Rat} {j:Nat} {x:Rat} (hl:a.length=b.length) (hx:b[j]? = some x):(a.take j++b.drop j)[j]? = some x:=by
 have h1:=(zS hx).1;have ht:(a.take j).length=j:=by rw[List.length_take];omega
 rw[List.getElem?_append_right (by omega),ht,Nat.sub_self,List.getElem?_drop];exact hx
theorem AlK {a b:List Rat} {j:Nat} {y:Rat} (hl:a.length=b.length) (hy:a[j]? = some y):(a.take j++b.drop j).set j y=a.take (j+1)++b.drop (j+1):=by
 have h1:=(zS hy).1;have ht:(a.take j).length=j:=by rw[List.length_take];omega
 rw[List.set_append_right _ _ (by omega),ht,Nat.sub_self,List.drop_eq_getElem_cons (by omega),List.set_cons_zero,eG hy,List.append_assoc];rfl
theorem So {m0 m a b:List (List Rat)} {K n w c:Nat} {P:List Nat} {odd:Bool} {l:Rat} (hE:G9 m0 K (n+w) n m P c odd l) (hs:fJ m0 (CO a b)) (hl:a.length=b.length) (ha : ∀ r∈a,r.length=n) (cj:a.length=n) (iw:n<=c\/n<=P.length):P.length=n↔NS n a:=by
 have Mo:EG m (n+w) n P:=by
  have hc:=hE.cc;rcases iw with h|h
  ·obtain rfl:c=n:=by omega
   exact hE.bf
  ·have h1:=hE.bf.pl
   have h2:=hE.len;have h3:=hs.1;simp only[CO,List.length_zipWith]at h3;exact hE.bf.wide (by omega) hc
 exact Amx Mo (λ X=>(hE.mo X).trans (hs.mo X)) hl ha
def qS:Option (List Rat)->List AV
 | none=>[.nil]
 | some r=>[.sl false (r.map eQ)]
def L1 (y:Nat->List Rat) (n w:Nat):List (List Rat):=(List.range n).map λ i:Nat=>(List.range w).map λ c=>(y c).getD i 0
theorem Akg {n:Nat} {l:List (List Rat)} (h:l.length=n):(fz none (l.map some) n).map qS=eM l:=by
 rw[dH (by simpa using h),List.map_map];rfl
theorem Zi {m0 m:List (List Rat)} {K n W c:Nat} {P:List Nat} {odd:Bool} {l:Rat} (hE:G9 m0 K W n m P c odd l) (hP:P.length=n) (fe:m.length=n):cL (A2 m) n:=by
 have hc:c=n:=by have:=hE.bf.le;have:=hE.cc;omega
 subst hc;exact hE.bf.Qb λ i hi=>by
  obtain ⟨q,hq⟩ : ∃ q,P[i]? = some q:=⟨_,zE (by omega)⟩;rw[hq,hE.bf.diag hP i q hq]
theorem Ani {m0 m a b:List (List Rat)} {K n w c:Nat} {P:List Nat} {odd:Bool} {l:Rat} (hE:G9 m0 K (n+w) n m P c odd l) (hs:fJ m0 (CO a b)) (hl:a.length=b.length) (nj : ∀ r∈a,r.length=n) (uf : ∀ r∈b,r.length=w) (hP:P.length=n) (fe:m.length=n) :
  ∀ c',c'<w -> ∀ (i:Nat) (r s:List Rat),a[i]? = some r->b[i]? = some s->A4 r ((EW (n+c') l m 0).map (· / l))=s.getD c' 0:=by
 intro c' aj i r s hr uw;have ht:=Zi hE hP fe;have hlen:=hE.bf.lr;refine Agz (λ X=>(hE.mo X).trans (hs.mo X)) hl nj uf aj (by rw[List.length_map,YD];exact fe) hlen (λ x hx => ?_) hr uw;have h1:=Agd (c:=n+c') (l:=l) (λ r hr=>by rw[hlen r hr];omega) fe ht x hx;have se:((EW (n+c') l m 0).map (· * l⁻¹)).length=n:=by rw[List.length_map,YD];exact fe
 rw[show ((EW (n+c') l m 0).map (· / l))=(EW (n+c') l m 0).map (· * l⁻¹) from List.map_congr_left λ z _=>Rat.div_def z l,S5,<-cT se,List.take_take,Nat.min_self,cT se,cV,S5,h1,Rat.mul_assoc,Rat.mul_inv_cancel _ hE.l0,Rat.mul_one]
theorem Ank (N:ah L) (q q1 q2 q3:Bool) (a0 b0:List (List Rat)) (a:List (List Rat)) (n WW k:Nat) {K:Nat} (cj:a.length=n) (nj : ∀ r∈a,r.length=WW) (hn:1<=n/\n<=52) (hW:WW<=104) (kj:Ms k a) (ux : ∀ r∈a,∀ j,Bt K (C1 (r.take j))) (Ha:k<=K) (La:K<=1000000000000) {kk:List It} {Q:Tm->Mem->Prop}
  (bm:AA L kk ([(5,.row 231019 0 3 0 n),(4,.row 231016 0 1 0 n)]++[(1000+43,.row 22 0 1 0 n),(1000+26,.bool false),(1000+25,.int .i64 n),(1000+24,.int .i64 n),(1000+7,.row 22 0 1 0 n),(1000+6,.int .i64 n),(1000+0,.sl q (CN q1 a0)),(1000+(0+1),.sl q2 (CN q3 b0))]) ([(231016,231016,.mx (BJ 3 eQ (whole a))),(231019,231019,.rw 3 ((a.map C1).map eQ))]++[(22,22,.rw 1 (eM a))]) Q) :
  AA L (.lp O7.l1 :: .j5 0::kk) ([(22,.int .i64 0),(21,.int .i64 n),(20,.row 22 0 1 0 n),(5,.row 231019 0 3 0 n),(4,.row 231016 0 1 0 n)]++[(1000+43,.row 22 0 1 0 n),(1000+26,.bool false),(1000+25,.int .i64 n),(1000+24,.int .i64 n),(1000+7,.row 22 0 1 0 n),(1000+6,.int .i64 n),(1000+0,.sl q (CN q1 a0)),(1000+(0+1),.sl q2 (CN q3 b0))]) ([(231016,231016,.mx (List.replicate n none)),(231019,231019,.rw 3 ((List.replicate n none).map eO))]++[(22,22,.rw 1 (eM a))]) Q:=by
 have hI:=I2 N.tob7 1 (by omega);refine bX (l:=[_,_]) rfl ?_;refine BQ (λ i=>n-i) (λ(i:Nat)=>i<=n) (λ i=>[(22,.int .i64 i)]) (λ i=>[(231016,231016,.mx (mz (whole a) n i)),(231019,231019,.rw 3 ((EM ((a.map C1).take i) n).map eO))]) [] [] 0 (by first|exact (by (conv=>whnf);exact ⟨rfl,rfl,rfl⟩)|(rw[<-tK (whole a),List.take_zero,<-YM];exact (by (conv=>whnf);exact ⟨rfl,rfl,rfl⟩))) (by omega) ?_;intro i p1 ih;have hzl:=tH (Q:=whole a) p1;by_cases hi:i<n
 ·obtain ⟨r,hr⟩ : ∃ r,a[i]? = some r:=⟨_,zE (by omega)⟩
  have ka:a[(i:Int).toNat]? = some r:=hr;have dp:=nj r (zM hr);have kb:=kj.at hr;have l9:=tJ (Q:=whole a) (i:=i) (n:=n) (row:=r.map (· * C1 r)) (by simp [whole,hr]) hi;have Ot:(a.map C1)[i]? = some (C1 r):=by simp [hr]
  generalize mz (whole a) n i=R0 at *;have Ib : ∀ j,Bt K (C1 (r.take j)):=ux r (zM hr);have Ic:=Ib WW;rw[List.take_of_length_le (by omega)]at Ic;(repeat' ((first|(apply AG<;>intro hc<;>try (exfalso;omega))|(apply AZ;omega)|apply AR|(refine GI ?_ (λ_=>rfl) (λ v hv => ?_);omega)|apply AE|refine AC (hI) ?_)<;>conv=>whnf))
  try cases hr.symm.trans hv
  refine F8 (λ j _=>WW-j) (λ(j:Nat) (s:Rat)=>j<=WW/\s=C1 (r.take j)) (λ j _=>[(30,.int .i64 j)]) (λ_ s=>[(231008,231008,.bx (eQ s))]) [] [] 0 ((1:Int):Rat) (by (conv=>whnf);exact ⟨rfl,rfl,rfl⟩) ⟨by omega,by rw[List.take_zero];rfl⟩ ?_;intro j s ⟨p2,p3⟩ jh;by_cases hj:j<WW
  ·obtain ⟨x,hx⟩ : ∃ x,r[j]? = some x:=⟨_,zE (by omega)⟩
   have gv:r[(j:Int).toNat]? = some x:=hx;have Ie:Bt K s:=by rw[p3];exact Ib j
   have bx:=kb.at hx;have eb:=GT N.tob7 Ie bx (by omega) (by omega);have fm:=Ai6 N.tob7 true Ie (Ie.mul bx).2 (by omega) (by omega);have Dq:C1 (r.take (j+1))=s*(((s*x).den:Nat):Rat):=by rw[eG hx,Vm,<-p3];rfl
   (repeat' ((first|(apply AG<;>intro hc<;>try (exfalso;omega))|(apply AY;omega)|(refine A9 (by assumption) ?_ rfl ?_;omega)|refine JZ rfl ?_|apply AE|refine AC (eb) ?_|refine AC (fm) ?_)<;>conv=>whnf))
   exact B1 [] (by (conv=>whnf);exact ⟨rfl,rfl,rfl⟩) (jh (j+1) _ (by omega) ⟨by omega,Dq.symm⟩)
  have ej:j=WW:=by omega
  clear jh;rw[List.take_of_length_le (by omega)]at p3;subst p3;(repeat' ((first|(apply AG<;>intro hc<;>try (exfalso;omega))|apply AR|apply AE)<;>conv=>whnf))
  rw[dp];refine EV (enc:=eO) none WW rfl (by omega) (by omega) ?_;(conv=>whnf)
  (repeat' ((first|(apply AZ;omega)|fail)<;>conv=>whnf))
  refine AZ (by simp) ?_;refine cJ (i:=i) (by omega) (by omega) ?_;(conv=>whnf)
  (repeat' (apply AR<;>conv=>whnf))
  refine BQ (λ j=>WW-j) (λ(j:Nat)=>j<=WW) (λ j=>[(53,.int .i64 j)]) (λ j=>[(231016,231016,.mx (R0.set i (some (3,(EM ((r.map (· * C1 r)).take j) WW).map eO))))]) [] [] 0 (by first|exact (by (conv=>whnf);exact ⟨rfl,rfl,rfl⟩)|(rw[List.take_zero,<-YM];exact (by (conv=>whnf);exact ⟨rfl,rfl,rfl⟩))) (by omega) ?_;intro j r2 jh;have Dz:((r.map (· * C1 r)).take j).length=j:=by rw[List.length_take,List.length_map];omega
  have Hf:=XT (l:=(r.map (· * C1 r)).take j) (m:=WW) (by omega);by_cases hj:j<WW
  ·obtain ⟨x,hx⟩ : ∃ x,r[j]? = some x:=⟨_,zE (by omega)⟩
   have gv:r[(j:Int).toNat]? = some x:=hx;have bx:=kb.at hx;have eb:=GT N.tob7 bx Ic (by omega) (by omega);have hs:=YN (l:=(r.map (· * C1 r)).take j) (m:=WW) (x:=x*C1 r) (by omega);rw[Dz,<-eG (show (r.map (· * C1 r))[j]? = some (x*C1 r) by rw[List.getElem?_map,hx];rfl)]at hs;generalize EM ((r.map (· * C1 r)).take j) WW=W0 at *;(repeat' ((first|(apply AG<;>intro hc<;>try (exfalso;omega))|(apply AZ;omega)|(refine A9 (by assumption) ?_ rfl ?_;omega)|apply AE)<;>conv=>whnf))
   refine aE (by omega) (by omega) ?_;(conv=>whnf)
   (repeat' (refine AC (eb) ?_<;>conv=>whnf))
   refine AZ (by rw[List.length_map];omega) ?_;(conv=>whnf)
   skip
   refine X7 (by omega) (by omega) ?_;(conv=>whnf)
   refine FX (enc:=eO) (some (x*C1 r)) rfl (λ e=>by cases e<;>rfl) (by omega) ?_;(conv=>whnf)
   rw[hs];refine jZ (by omega) (by rw[List.length_map,List.length_map,<-hs,List.length_set]) ?_;(conv=>whnf)
   (repeat' ((first|(apply AY;omega)|fail)<;>conv=>whnf))
   exact BF [] (jh (j+1) (by omega) (by omega))
  have ej:j=WW:=by omega
  clear jh;rw[List.take_of_length_le (by rw[List.length_map];omega),YL (by rw[List.length_map];exact dp),l9];have tt:((a.map C1).take i).length=i:=by rw[List.length_take,List.length_map];omega
  have hfi:=XT (l:=(a.map C1).take i) (m:=n) (by omega);have js:=YN (l:=(a.map C1).take i) (m:=n) (x:=C1 r) (by omega);rw[tt,<-eG Ot]at js;generalize EM ((a.map C1).take i) n=W1 at *;(repeat' ((first|(apply AG<;>intro hc<;>try (exfalso;omega))|(apply AZ;omega)|apply AE)<;>conv=>whnf))
  refine FX (enc:=eO) (some (C1 r)) rfl (λ e=>by cases e<;>rfl) (by omega) ?_;(conv=>whnf)
  rw[js];(repeat' ((first|(apply AY;omega)|fail)<;>conv=>whnf))
  exact BF [] (ih (i+1) (by omega) (by omega))
 have ei:i=n:=by omega
 clear ih;rw[ei,tG (by simp [whole,cj]),List.take_of_length_le (by rw[List.length_map];omega),YL (by rw[List.length_map];exact cj)];(repeat' ((first|(apply AG<;>intro hc<;>try (exfalso;omega))|apply AE)<;>conv=>whnf))
 exact B1 [] (by (conv=>whnf);exact ⟨rfl,rfl,rfl⟩) bm
theorem Anj (N:ah L) (q2 q3:Bool) (b0 jm:List (List Rat)) {m0 m1:List (List Rat)} {n cw WW K0 c:Nat} {P:List Nat} {o:Bool} {l:Rat} {rp:List Rat} (sc:List Rat) (uk:m0.length=n) (hn:1<=n/\n<=52) (hW:cw<=WW) (Lr:WW<=104) (Ax:1<=K0) (hB:6^n*K0<=1000000000000) (hP:P.length<n) (qf:c<cw) (hS:YC m0 K0 WW cw P c o l rp m1 (P.length+1)) {kk:List It} {Q:Tm->Mem->Prop}
  (bm : ∀ m2,YC m0 K0 WW cw P c o l rp m2 n->AA L kk ([(9,.bool o),(8,.int .i64 c),(7,.int .i64 (P.length:Nat)),(10,.ptr 233010 0 0 0),(5,.ptr 233005 0 0 0),(0,.row 231016 0 1 0 n),(0+1,.int .i64 cw)]++[(1000+49,.int .i64 n),(1000+48,.row 231016 0 1 0 n),(1000+9,.row 231016 0 1 0 n),(1000+6,.int .i64 n),(1000+(0+1),.sl q2 (CN q3 b0))]) ([(231016,231016,.mx (BJ 3 eQ m2)),(233010,233010,.bx (eQ l)),(233005,233005,.bx [.bool false,.nil,.nil])]++[(22,22,.rw 1 (eM jm)),(231019,231019,.rw 3 (sc.map eQ))]) Q) :
  AA L (.lp O6.l4 :: .j5 6::kk) ([(12,.int .i64 ((P.length+1:Nat):Int)),(9,.bool o),(8,.int .i64 c),(7,.int .i64 (P.length:Nat)),(10,.ptr 233010 0 0 0),(5,.ptr 233005 0 0 0),(0,.row 231016 0 1 0 n),(0+1,.int .i64 cw)]++[(1000+49,.int .i64 n),(1000+48,.row 231016 0 1 0 n),(1000+9,.row 231016 0 1 0 n),(1000+6,.int .i64 n),(1000+(0+1),.sl q2 (CN q3 b0))]) ([(231016,231016,.mx (BJ 3 eQ m1)),(233010,233010,.bx (eQ l)),(233005,233005,.bx [.bool false,.nil,.nil])]++[(22,22,.rw 1 (eM jm)),(231019,231019,.rw 3 (sc.map eQ))]) Q:=by
 refine bX (l:=[_,_]) rfl ?_;refine F8 (λ_ i=>n-i) (λ(m:List (List Rat)) (i:Nat)=>YC m0 K0 WW cw P c o l rp m i/\P.length+1<=i/\i<=n) (λ_ i=>[(12,.int .i64 i)]) (λ m _=>[(231016,231016,.mx (BJ 3 eQ m))]) [] [] m1 (P.length+1) (by (conv=>whnf);exact ⟨rfl,rfl,rfl⟩) ⟨hS,by omega,by omega⟩ ?_;clear hS;intro m2 i ⟨hS,j1,j2⟩ sh;have xh:=hS.len;rw[uk]at xh;by_cases hj:i<n
 ·obtain ⟨rq,gn⟩ : ∃ r,m2[i]? = some r:=⟨_,zE (by omega)⟩
  have ry:=hS.ht;have Hy:=hS.bf.lr rq (zM gn);have cp:=hS.bf.lr rp (zM ry);(repeat' ((first|(apply AG<;>intro hc<;>try (exfalso;omega))|(apply AZ;omega)|(refine FW ?_ (λ r hr => ?_);omega)|apply AE)<;>conv=>whnf))
  rename_i rA hrA;cases gn.symm.trans hrA;cases ry.symm.trans hr;rw[show 0+((i:Nat):Int).toNat=i by omega,show 0+((P.length:Nat):Int).toNat=P.length by omega,show (List.map eQ rq).length=WW by rw[List.length_map];exact Hy,show (List.map eQ rp).length=WW by rw[List.length_map];exact cp];have uq:rq[c]? = some (rq.getD c 0):=ZQ (by omega);refine GF 1000 N.TQ rfl rfl ?_;have xm:rp[c]? = some (rp.getD c 0):=ZQ (by omega);have Ow:=hS.step (by omega) gn;have o4:(comb (rp.getD c 0) (rq.getD c 0) l rq rp).length=WW:=by rw[yZ (by omega)];exact Hy
  have hcg:=λ j=>pW (p:=rp.getD c 0) (f:=rq.getD c 0) (l:=l) (r:=rq) (t:=rp) (by omega) j
  have ke:=λ j (h:j<c)=>hS.bf.zr i rq (by omega) gn j h
  have zd:=λ j (h:j<c)=>hS.bf.zr P.length rp (Nat.le_refl _) ry j h
  have hbq:=hS.hi i rq (Nat.le_refl i) gn;have hbp:=hS.bt;have ic:=hS.bl;have nn:=hS.l0;have Cy:=hbp.at xm;have Cz:=hbq.at uq;generalize Jx:rp.getD c 0=pv at *;generalize hfv:rq.getD c 0=fv at *;generalize ug:comb pv fv l rq rp=cb at *;have Hk:cb.take c++rq.drop c=rq:=AlL (by omega) λ j hj=>⟨by rw[hcg,ke j hj,zd j hj,Rat.zero_mul,Rat.zero_mul,Rat.sub_eq_add_neg,Rat.neg_zero,Rat.add_zero,Rat.div_def,Rat.zero_mul],ke j hj⟩
  have Co:=YU (z:=3) gn;have hRp:=YU (z:=3) ry;have Lj:(BJ 3 eQ m2).length=n:=by simp only[BJ,List.length_map];omega
  have En:(BJ 3 eQ m2).set i (some (3,cb.map eQ))=BJ 3 eQ (m2.set i cb):=by simp only[BJ,List.map_set]
  generalize BJ 3 eQ m2=R2 at *;have Gb:R2.set i (some (3,rq.map eQ))=R2:=uU Co;(repeat' ((first|(apply AZ;omega)|apply AE)<;>conv=>whnf))
  refine jR hRp ?_;(conv=>whnf)
  (repeat' ((first|(apply AZ;omega)|(refine GI ?_ (λ_=>rfl) (λ v hv => ?_);omega))<;>conv=>whnf))
  cases xm.symm.trans hv;skip
  refine jR Co ?_;(conv=>whnf)
  (repeat' ((first|(refine GI ?_ (λ_=>rfl) (λ v hv => ?_);omega)|fail)<;>conv=>whnf))
  cases uq.symm.trans hv;skip
  have hp7:=Nat.le_trans (Vu Ax P.length) (tW hB (show P.length+1<=n by omega));generalize 6^P.length*K0=BB at *;refine BQ (λ j=>WW-j) (λ(j:Nat)=>c<=j/\j<=WW) (λ j=>[(10,.int .i64 j)]) (λ j=>[(231016,231016,.mx (R2.set i (some (3,(cb.take j++rq.drop j).map eQ))))]) [] [] c (by first|exact (by (conv=>whnf);exact ⟨rfl,rfl,rfl⟩)|(rw[Hk,Gb];exact (by (conv=>whnf);exact ⟨rfl,rfl,rfl⟩))) ⟨by omega,by omega⟩ ?_;intro j ⟨k1,k2⟩ jh;have fe:(cb.take j++rq.drop j).length=WW:=by rw[List.length_append,List.length_take,List.length_drop];omega
  by_cases hjn:j<WW
  ·obtain ⟨x,hx⟩ : ∃ x,rq[j]? = some x:=⟨_,zE (by omega)⟩
   obtain ⟨y,hy⟩ : ∃ y,rp[j]? = some y:=⟨_,zE (by omega)⟩;have zw:cb[j]? = some ((x*pv-y*fv)/l):=by rw[<-ug];exact AgH hx hy
   have Hi:=AlJ (a:=cb) (by omega) hx;have mw:=AlK (b:=rq) (by omega) zw;have bx:=hbq.at hx;have Ei:=hbp.at hy
   have eb:=GT N.tob7 bx Cy (by omega) (by omega);have fm:=GT N.tob7 Ei Cz (by omega) (by omega)
   have Gf:=gJ N.tow6 (bx.mul Cy) (Ei.mul Cz) (by omega) (by omega);have hDi:=lN N.tob7 ((bx.mul Cy).ia (Ei.mul Cz)) ic (by omega) (by omega) nn;have Lk:(R2.set i (some (3,(cb.take j++rq.drop j).map eQ)))[P.length]? = some (some (3,rp.map eQ)):=by rw[List.getElem?_set,if_neg (by omega)];exact hRp
   generalize cb.take j++rq.drop j=cm at *;(repeat' ((first|(apply AG<;>intro hc<;>try (exfalso;omega))|(apply AZ;omega)|apply AE)<;>conv=>whnf))
   refine X7 rfl (by omega) ?_;(conv=>whnf)
   (repeat' ((first|(refine GI ?_ (λ_=>rfl) (λ v hv => ?_);omega)|fail)<;>conv=>whnf))
   cases Hi.symm.trans hv;(repeat' ((first|(apply AZ;omega)|refine AC (eb) ?_)<;>conv=>whnf))
   refine jR Lk ?_;(conv=>whnf)
   (repeat' ((first|(refine GI ?_ (λ_=>rfl) (λ v hv => ?_);omega)|fail)<;>conv=>whnf))
   cases hy.symm.trans hv;(repeat' ((first|refine AC (fm) ?_|refine AC (Gf) ?_)<;>conv=>whnf))
   (repeat' ((first|(apply AZ;omega)|refine AC (hDi) ?_)<;>conv=>whnf))
   refine X7 rfl (by omega) ?_;(conv=>whnf)
   refine FX (enc:=eQ) ((x*pv-y*fv)/l) rfl (λ_=>rfl) (by omega) ?_;rw[mw];(conv=>whnf)
   refine jZ rfl (by rw[List.length_map,List.length_map,<-mw,List.length_set]) ?_;(conv=>whnf)
   (repeat' ((first|(apply AY;omega)|fail)<;>conv=>whnf))
   exact BF [] (jh (j+1) (by omega) ⟨by omega,by omega⟩)
  ·have ej:j=WW:=by omega
   clear jh;rw[List.take_of_length_le (by omega),List.drop_of_length_le (by omega),List.append_nil,En];(repeat' ((first|(apply AG<;>intro hc<;>try (exfalso;omega))|apply AE)<;>conv=>whnf))
   refine ⟨rfl,_,rfl,?_⟩;(conv=>whnf)
   (repeat' ((first|(apply AY;omega)|fail)<;>conv=>whnf))
   exact BF [] (sh (m2.set i cb) (i+1) (by omega) ⟨Ow,by omega,by omega⟩)
 ·have ei:i=n:=by omega
  clear sh;rw[ei]at hS;(repeat' ((first|(apply AG<;>intro hc<;>try (exfalso;omega))|apply AE)<;>conv=>whnf))
  exact B1 [] (by (conv=>whnf);exact ⟨rfl,rfl,rfl⟩) (bm m2 hS)
theorem Alo {a b:List (List Rat)} {n w k:Nat} (nj : ∀ r∈a,r.length=n) (uf : ∀ r∈b,r.length=w) (kj:Ms k a) (nk:Ms k b):(∀ r∈CO a b,r.length=n+w)/\Ms k (CO a b):=by
 constructor
 ·intro r hr
  obtain ⟨i,hi⟩:=List.getElem?_of_mem hr;have ak:=(zS hi).1;simp only[CO,List.length_zipWith]at ak;obtain ⟨x,hx⟩ : ∃ x,a[i]? = some x:=⟨_,zE (by omega)⟩;obtain ⟨y,hy⟩ : ∃ y,b[i]? = some y:=⟨_,zE (by omega)⟩;obtain rfl:=Option.some.inj ((ZS hx hy).symm.trans hi);rw[List.length_append,nj x (zM hx),uf y (zM hy)]
 ·intro r hr
  obtain ⟨i,hi⟩:=List.getElem?_of_mem hr;have ak:=(zS hi).1;simp only[CO,List.length_zipWith]at ak;obtain ⟨x,hx⟩ : ∃ x,a[i]? = some x:=⟨_,zE (by omega)⟩;obtain ⟨y,hy⟩ : ∃ y,b[i]? = some y:=⟨_,zE (by omega)⟩;obtain rfl:=Option.some.inj ((ZS hx hy).symm.trans hi);intro z hz;rcases List.mem_append.1 hz with hz|hz
  ·exact kj.at hx z hz
  ·exact nk.at hy z hz
theorem Aj0 (N:ah L) (q q1 q2 q3:Bool) (a b:List (List Rat)) (n w k K0:Nat) (cj:a.length=n) (nj : ∀ r∈a,r.length=n) (ic:b.length=n) (uf : ∀ r∈b,r.length=w) (hn:1<=n/\n<=52) (hw:1<=w/\w<=52) (Ha:k<=K0) (Ax:1<=K0) (kj:Ms k a) (nk:Ms k b)
  (ux : ∀ r∈CO a b,∀ j,Bt K0 (C1 (r.take j))) (Bv:Ms K0 (whole (CO a b)))
  (hB:6^n*K0<=1000000000000) (hC:FD (6^n*K0) n n<=1000000000000) {B0:Nat} (yg:FD (6^n*K0) n n+6^n*K0<=B0) :
  ∃ v,Ev L 235 [.sl q (CN q1 a),.sl q2 (CN q3 b)] v/\((¬ NS n a/\v = .j9 [.sl false [],.int .i64 11])\/(NS n a /\ ∃ y:Nat->List Rat,v = .j9 [.sl false (eM (L1 y n w)),.int .i64 0] /\
   ∀ c,c<w->(y c).length=n/\Bs B0 (y c) /\ ∀ (i:Nat) (r s:List Rat),a[i]? = some r->b[i]? = some s->A4 r (y c)=s.getD c 0)):=by
 have hI:=I2 N.tob7 1 (by omega);have dm:(CO a b).length=n:=by simp [CO,cj,ic]
 have Js : ∀ r∈CO a b,r.length=n+w:=λ r hr=>by
  obtain ⟨i,hi⟩:=List.getElem?_of_mem hr;have ak:=(zS hi).1;obtain ⟨x,hx⟩ : ∃ x,a[i]? = some x:=⟨_,zE (by omega)⟩;obtain ⟨y,hy⟩ : ∃ y,b[i]? = some y:=⟨_,zE (by omega)⟩;obtain rfl:=Option.some.inj ((ZS hx hy).symm.trans hi);rw[List.length_append,nj x (zM hx),uf y (zM hy)]
 have Bj:Ms k (CO a b):=λ r hr=>by
  obtain ⟨i,hi⟩:=List.getElem?_of_mem hr;have ak:=(zS hi).1;obtain ⟨x,hx⟩ : ∃ x,a[i]? = some x:=⟨_,zE (by omega)⟩;obtain ⟨y,hy⟩ : ∃ y,b[i]? = some y:=⟨_,zE (by omega)⟩;obtain rfl:=Option.some.inj ((ZS hx hy).symm.trans hi);intro z hz;rcases List.mem_append.1 hz with hz|hz
  ·exact kj.at hx z hz
  ·exact nk.at hy z hz
 refine Ev.xE N.TP rfl rfl ?_;(repeat' ((first|apply AR|apply AE)<;>conv=>whnf))
 unfold CU;refine ⟨⟨by omega,by omega,by simp only[EB];omega,by omega⟩,?_⟩;rw[Int.toNat_natCast,cj];(conv=>whnf)
 skip
 refine Ael 22 22 n rfl ?_;refine BQ (λ i=>n-i) (λ(i:Nat)=>i<=n) (λ i=>[(25,.int .i64 i)]) (λ i=>[(22,22,.rw 1 ((fz none (((CO a b).take i).map some) n).map qS))]) [] [] 0 (by first|exact (by (conv=>whnf);exact ⟨rfl,rfl,rfl⟩)|(rw[List.take_zero,List.map_nil,show fz (none:Option (List Rat)) [] n=List.replicate n none by simp [fz],List.map_replicate];exact (by (conv=>whnf);exact ⟨rfl,rfl,rfl⟩))) (by omega) ?_;intro i p1 ih;by_cases hi:i<n
 ·obtain ⟨r,w8⟩ : ∃ r,a[i]? = some r:=⟨_,zE (by omega)⟩
  obtain ⟨s,fc⟩ : ∃ s,b[i]? = some s:=⟨_,zE (by omega)⟩;have ka:a[(i:Int).toNat]? = some r:=w8;have uw:b[(i:Int).toNat]? = some s:=fc;have dp:=nj r (zM w8);have Bn:=uf s (zM fc);have hCc:=AiE N true q1 q3 r s (by omega) (by omega) (by omega);have tt:(((CO a b).take i).map some).length=i:=by rw[List.length_map,List.length_take];omega
  have fo:=dI (z:=(none:Option (List Rat))) (l:=((CO a b).take i).map some) (m:=n) (by omega);have js:=dJ (z:=(none:Option (List Rat))) (x:=some (r++s)) (l:=((CO a b).take i).map some) (m:=n) (by omega);have hta:(CO a b).take (i+1)=(CO a b).take i++[r++s]:=by rw[List.take_add_one,ZS w8 fc];rfl
  rw[tt,show ((CO a b).take i).map some++[some (r++s)]=((CO a b).take (i+1)).map some by rw[hta,List.map_append];rfl]at js;generalize fz (none:Option (List Rat)) (((CO a b).take i).map some) n=J at *;(repeat' ((first|(apply AG<;>intro hc<;>try (exfalso;omega))|(apply AZ;omega)|(refine A9 (by assumption) ?_ rfl ?_;omega)|refine aG rfl rfl ?_|apply AE|refine AC (hCc) ?_)<;>conv=>whnf))
  refine FX (enc:=qS) (some (r++s)) rfl (λ e=>by cases e<;>rfl) (by omega) ?_;(conv=>whnf)
  rw[js];(repeat' ((first|(apply AY;omega)|fail)<;>conv=>whnf))
  exact BF [] (ih (i+1) (by omega) (by omega))
 have ei:i=n:=by omega
 clear ih;rw[ei,List.take_of_length_le (by omega),Akg dm];(repeat' ((first|(apply AG<;>intro hc<;>try (exfalso;omega))|apply AE)<;>conv=>whnf))
 have La:K0<=1000000000000:=by simpa using tW hB (Nat.zero_le n)
 refine GF 1000 N.O7 rfl rfl ?_;(repeat' (apply AE<;>conv=>whnf))
 unfold CU;refine ⟨⟨by omega,by omega,by simp only[EB];omega,by omega⟩,?_⟩;rw[Int.toNat_natCast];(conv=>whnf)
 skip
 refine EV (enc:=eO) none n rfl (by omega) (by omega) ?_;(conv=>whnf)
 skip
 refine B1 [] (by (conv=>whnf);exact ⟨rfl,rfl,rfl⟩) (Ank N q q1 q2 q3 a b (CO a b) n (n+w) k dm Js hn (by omega) Bj ux Ha La ?_);(repeat' (apply AE<;>conv=>whnf))
 refine ⟨rfl,_,rfl,?_⟩;(conv=>whnf)
 skip
 have Lr:n+w<=104:=by omega
 have hW:n<=n+w:=by omega
 have uk:(whole (CO a b)).length=n:=by simp only[whole,List.length_map];exact dm
 have Dn:=AnS Js;have Dm:=Bv;have xf:=AnT (CO a b);have Nf:a.length=b.length:=by omega
 clear Bj Js kj nk La ei hi p1 i ux Bv Ha;generalize whole (CO a b)=m0 at uk Dn Dm xf ⊢;refine FG 1000 N.O6 rfl rfl ?_;(repeat' ((first|apply AE|refine AC (hI) ?_)<;>conv=>whnf))
 refine Aei (λ_ P _ _ _=>n-P.length) (λ(m:List (List Rat)) (P:List Nat) (c:Nat) (odd:Bool) (l:Rat)=>G9 m0 K0 (n+w) n m P c odd l) (λ_ P c odd _=>[(7,.int .i64 (P.length:Nat)),(8,.int .i64 c),(9,.bool odd)]) (λ m _ _ _ l=>[(231016,231016,.mx (BJ 3 eQ m)),(233010,233010,.bx (eQ l))]) [] [] m0 [] 0 false ((1:Int):Rat) (by (conv=>whnf);exact ⟨rfl,rfl,rfl⟩) (G9.start Dn Dm) ?_;intro m P c odd l hE eh;have fe:=hE.len;have Ck:=hE.bf.pl;rw[uk]at fe;by_cases hP:P.length<n
 ·have hp6:=tW hB (show P.length<=n by omega)
  (repeat' ((first|(apply AG<;>intro hc<;>try (exfalso;omega))|apply AE)<;>conv=>whnf))
  refine Aek (l:=[_,_]) (λ(m1:List (List Rat)) (c:Nat) (o:Bool)=>G9 m0 K0 (n+w) n m1 P c o l/\(c<n -> ∃ rp,m1[P.length]? = some rp/\rp.getD c 0≠0)) (λ_ c o=>[(8,.int .i64 c),(9,.bool o)]) (λ m1 _ _=>[(231016,231016,.mx (BJ 3 eQ m1))]) [17] rfl ?_ ?_
  ·clear hE fe Ck
   intro m1 c AAK ⟨hE,Jx⟩;have fe:=hE.len;have Ck:=hE.bf.pl;have aw:=hE.cc;rw[uk]at fe;by_cases qf:c<n
   ·obtain ⟨rp,um,hpn⟩:=Jx qf
    clear Jx;have hS:=hE.swp qf um hpn;(repeat' ((first|(apply AG<;>intro hc<;>try (exfalso;omega))|(apply AY;omega)|apply AE)<;>conv=>whnf))
    refine B1 [] (by (conv=>whnf);exact ⟨rfl,rfl,rfl⟩) (Anj N q2 q3 b (CO a b) ((CO a b).map C1) uk hn hW Lr Ax hB hP qf hS λ m2 hS => ?_);have ry:=hS.ht;have AAe:=hS.bf.lr rp (zM ry);have xm:rp[c]? = some (rp.getD c 0):=ZQ (by omega);have xh:=hS.len;have bm:=hS.done Ax (by omega);have Fz:(P++[c]).length=P.length+1:=by simp
    generalize rp.getD c 0=pv at xm bm;clear hS hE hpn um;(repeat' ((first|(apply AZ;omega)|(refine FW ?_ (λ r hr => ?_);omega)|apply AE)<;>conv=>whnf))
    cases ry.symm.trans hr;refine AZ (by rw[List.length_map];omega) ?_;(conv=>whnf)
    (repeat' ((first|(apply AY;omega)|(refine GI ?_ (λ_=>rfl) (λ v hv => ?_);omega)|refine GH (by assumption) ?_)<;>conv=>whnf))
    cases xm.symm.trans hv;skip
    rw[show ((P.length:Nat):Int)+1=((P++[c]).length:Nat) by rw[Fz];omega];exact B1 [] (by (conv=>whnf);exact ⟨rfl,rfl,rfl⟩) (eh m2 (P++[c]) (c+1) _ pv (by rw[Fz];omega) bm)
   ·clear eh Jx
    (repeat' ((first|(apply AG<;>intro hc<;>try (exfalso;omega))|apply AE)<;>conv=>whnf))
    refine ⟨rfl,?_⟩;(conv=>whnf)
    (repeat' ((first|(apply AG<;>intro hc<;>try (exfalso;omega))|fail)<;>conv=>whnf))
    have iw:n<=c\/n<=P.length:=Or.inl (by omega);have Fb:=So (w:=w) hE xf Nf nj cj iw;skip
    refine ⟨.j9 [.sl false [],.int .i64 11],?_,Or.inl ⟨λ h=>absurd (Fb.2 h) (by omega),rfl⟩⟩;(conv=>whnf)
    exact AX rfl (IW [] 11)
  ·clear eh
   intro xg;refine BQ (λ c=>n-c) (λ(c:Nat)=>G9 m0 K0 (n+w) n m P c odd l) (λ c=>[(8,.int .i64 c)]) (λ_=>[]) [17] [] c (by (conv=>whnf);exact ⟨rfl,rfl,rfl⟩) hE ?_;clear hE;intro c hE ch;have aw:=hE.cc;by_cases qf:c<n
   ·(repeat' ((first|(apply AG<;>intro hc<;>try (exfalso;omega))|apply AE)<;>conv=>whnf))
    refine BQ (λ i=>n-i) (λ(i:Nat)=>P.length<=i/\i<=n /\ ∀ (q:Nat) (r:List Rat),P.length<=q->q<i->m[q]? = some r->r.getD c 0=0) (λ i=>[(11,.int .i64 i)]) (λ_=>[]) [] [] P.length (by (conv=>whnf);exact ⟨rfl,rfl,rfl⟩) ⟨Nat.le_refl _,by omega,λ q r h1 h2=>absurd h1 (by omega)⟩ ?_;intro i ⟨i1,i2,i3⟩ ih;by_cases hi:i<n
    ·obtain ⟨rp,w8⟩ : ∃ r,m[i]? = some r:=⟨_,zE (by omega)⟩
     have dp:=hE.bf.lr rp (zM w8);have kv:rp[c]? = some (rp.getD c 0):=ZQ (by omega);have zo:=aW N.tob7 (hE.ms.at w8 _ (zM kv)) (by omega);have hz:=X2 (x:=rp.getD c 0);generalize pe:rp.getD c 0=rc at *;generalize w9 rc.num=sg at *;by_cases uy:sg=0
     ·(repeat' ((first|(apply AG<;>intro hc<;>try (exfalso;omega))|(apply AZ;omega)|(refine FW ?_ (λ r hr => ?_);omega)|apply AE)<;>conv=>whnf))
      cases w8.symm.trans hr;refine AZ (by rw[List.length_map];omega) ?_;(conv=>whnf)
      (repeat' ((first|(refine GI ?_ (λ_=>rfl) (λ v hv => ?_);omega)|refine GH (by assumption) ?_)<;>conv=>whnf))
      cases kv.symm.trans hv;(repeat' ((first|(apply AG<;>intro hc<;>try (exfalso;omega))|(apply AY;omega)|refine AC (zo) ?_)<;>conv=>whnf))
      refine B1 [] (by (conv=>whnf);exact ⟨rfl,rfl,rfl⟩) (ih (i+1) (by omega) ⟨by omega,by omega,λ q x h1 h2 hx => ?_⟩);by_cases e:q=i
      ·subst e
       cases w8.symm.trans hx;rw[pe];exact hz.1 uy
      ·exact i3 q x h1 (by omega) hx
     ·clear ih ch
      have Hm:rc≠0:=λ e=>uy (hz.2 e)
      (repeat' ((first|(apply AG<;>intro hc<;>try (exfalso;omega))|(apply AZ;omega)|(refine FW ?_ (λ r hr => ?_);omega)|apply AE)<;>conv=>whnf))
      cases w8.symm.trans hr;refine AZ (by rw[List.length_map];omega) ?_;(conv=>whnf)
      (repeat' ((first|(refine GI ?_ (λ_=>rfl) (λ v hv => ?_);omega)|refine GH (by assumption) ?_)<;>conv=>whnf))
      cases kv.symm.trans hv;(repeat' ((first|(apply AG<;>intro hc<;>try (exfalso;omega))|(apply AZ;omega)|(refine FW ?_ (λ r hr => ?_);omega)|refine GH (by assumption) ?_|refine AC (zo) ?_)<;>conv=>whnf))
      ·obtain ⟨t,yw⟩ : ∃ t,m[P.length]? = some t:=⟨_,zE (by omega)⟩
       refine AZ ⟨rfl,by simp only[BJ,List.length_map];omega⟩ ?_;(conv=>whnf)
       (repeat' ((first|(apply AZ;omega)|refine GH (by assumption) ?_)<;>conv=>whnf))
       rw[show 0+((i:Nat):Int).toNat=i by omega,show 0+((P.length:Nat):Int).toNat=P.length by omega];refine AZ ⟨rfl,by simp only[BJ,List.length_map,List.length_set,List.length_range];omega,Zr (by simp only[BJ,List.length_map];omega)⟩ ?_;(conv=>whnf)
       skip
       have Kw:=hE.swap w8 yw i1 (Nat.le_refl _) (by omega);have Cp:c<n -> ∃ rp',((m.set i t).set P.length rp)[P.length]? = some rp'/\rp'.getD c 0≠0:=λ_=>⟨rp,by rw[List.getElem?_set,if_pos rfl,if_pos (by rw[List.length_set];omega)],by rw[pe];exact Hm⟩
       generalize hob:(!odd)=ob at *;cases ob;all_goals
        (conv=>whnf)
        skip
        refine jS.go ?_;refine wD (k:=231016) (i:=i) (j:=P.length) rfl (YU w8) (YU yw) rfl rfl ?_;rw[Wt];exact B1 [] (by (conv=>whnf);exact ⟨rfl,rfl,rfl⟩) (xg _ c _ ⟨Kw,Cp⟩)
      ·have ei:i=P.length:=by omega
       exact jS.go (B1 [] (by (conv=>whnf);exact ⟨rfl,rfl,rfl⟩) (xg m c odd ⟨hE,λ_=>⟨rp,by rw[<-ei];exact w8,by rw[pe];exact Hm⟩⟩))
    ·have ei:i=n:=by omega
     clear ih;(repeat' ((first|(apply AG<;>intro hc<;>try (exfalso;omega))|(apply AY;omega)|apply AE)<;>conv=>whnf))
     exact BF [] (ch (c+1) (by omega) (hE.skip qf λ q x h1 hx=>i3 q x h1 (by have:=(zS hx).1;omega) hx))
   ·clear ch
    (repeat' ((first|(apply AG<;>intro hc<;>try (exfalso;omega))|apply AE)<;>conv=>whnf))
    exact jS.go (B1 [] (by (conv=>whnf);exact ⟨rfl,rfl,rfl⟩) (xg m c odd ⟨hE,λ h=>absurd h qf⟩))
 ·clear eh
  (repeat' ((first|(apply AG<;>intro hc<;>try (exfalso;omega))|apply AE)<;>conv=>whnf))
  refine ⟨rfl,?_⟩;(conv=>whnf)
  (repeat' ((first|(apply AG<;>intro hc<;>try (exfalso;omega))|fail)<;>conv=>whnf))
  have iw:n<=c\/n<=P.length:=Or.inr (by omega);have Fb:=So (w:=w) hE xf Nf nj cj iw;have Jd:P.length=n:=by have:=hE.bf.le;have:=hE.bf.pl;omega
  have gl:=Fb.1 Jd;have Mr:=Ani hE xf Nf nj uf Jd fe;have Ph:=Zi hE Jd fe;have hmw:=hE.bf.lr;have mw:=hE.ms;have ue:=hE.bl;have nn:=hE.l0;rw[Jd]at mw ue;clear hE Fb Ck Dm Dn xf;have Jn : ∀ (e:Nat) (r:List Rat),m[e]? = some r->r.getD e 0≠0:=λ e r hr=>by
   rw[<-OW hr];exact (Ph e (by have:=(zS hr).1;omega)).1
  skip
  unfold CU;refine ⟨⟨by omega,by omega,by simp only[EB];omega,by omega⟩,?_⟩;rw[Int.toNat_natCast];(conv=>whnf)
  skip
  refine BQ (λ u=>n-u) (λ(u:Nat)=>u<=n) (λ u=>[(61,.int .i64 u)]) (λ u=>[(58,58,.mx (List.replicate u (some (3,(EM [] w).map eO))++List.replicate (n-u) none))]) [] [] 0 (by (conv=>whnf);exact ⟨rfl,rfl,rfl⟩) (by omega) ?_;intro u r1 uh;by_cases hu:u<n
  ·obtain ⟨s,fc⟩ : ∃ s,b[u]? = some s:=⟨_,zE (by omega)⟩
   have uw:b[(u:Int).toNat]? = some s:=fc;have Bn:=uf s (zM fc);(repeat' ((first|(apply AG<;>intro hc<;>try (exfalso;omega))|apply AR|(refine A9 (by assumption) ?_ rfl ?_;omega)|apply AE)<;>conv=>whnf))
   rw[Bn];refine EV (enc:=eO) none w rfl rfl (by omega) ?_;(conv=>whnf)
   (repeat' ((first|(apply AZ;omega)|fail)<;>conv=>whnf))
   unfold AP CJ;refine ⟨by simp,by simp;omega,?_⟩;(conv=>whnf)
   rw[show 0+((u:Int)).toNat=u by omega,<-YM,Ake _ _ r1 hu];(repeat' ((first|(apply AY;omega)|fail)<;>conv=>whnf))
   exact BF [] (uh (u+1) (by omega) (by omega))
  have eu:u=n:=by omega
  subst eu;clear uh;obtain ⟨y,hy⟩ : ∃ y:Nat->List Rat,y=λ c'=>(EW (u+c') l m 0).map (· / l):=⟨_,rfl⟩
  have se : ∀ c',(y c').length=u:=λ c'=>by rw[hy,List.length_map,YD];exact fe
  have yi:(L1 y u w).length=u:=by simp [L1]
  have zn : ∀ e,e<u->(L1 y u w)[e]? = some ((List.range w).map λ c'=>(y c').getD e 0):=λ e he=>by simp [L1,he]
  have hRw : ∀ r∈L1 y u w,r.length=w:=λ r hr=>by
   obtain ⟨i,_,rfl⟩:=List.mem_map.1 hr;simp
  rw[show List.replicate u (some (3,List.map eO (EM [] w)))++List.replicate (u-u) none=BJ 3 eO (ot (L1 y u w) w 0 0) by rw[Amh,yi];simp [BJ]];obtain ⟨s0,fc⟩ : ∃ s,b[0]? = some s:=⟨_,zE (by omega)⟩;have Om:b[(0:Int).toNat]? = some s0:=fc;have On:=uf s0 (zM fc);generalize hRg:L1 y u w=R at yi zn hRw ⊢;(repeat' ((first|(apply AG<;>intro hc<;>try (exfalso;omega))|apply AR|(refine A9 (by assumption) ?_ rfl ?_;omega)|apply AE)<;>conv=>whnf))
  rw[On];refine BQ (λ c=>w-c) (λ(c:Nat)=>c<=w) (λ c=>[(78,.int .i64 c)]) (λ c=>[(58,58,.mx (BJ 3 eO (ot R w c 0)))]) [] [] 0 (by (conv=>whnf);exact ⟨rfl,rfl,rfl⟩) (by omega) ?_;intro c' r2 ch;by_cases tj:c'<w
  ·have Cj:=AiR N true true m u (u+w) (u+c') (6^u*K0) l fe hmw (by omega) (by omega) (by omega) (by omega) Jn mw ue (by omega)
   have zu:=kN (c:=u+c') (n:=u) ue m 0 (by omega) mw;have vp:=YD (u+c') l m 0;have hyc : ∀ (e:Nat) (x:Rat),(EW (u+c') l m 0)[e]? = some x->(y c').getD e 0=x/l:=λ e x hx=>by
    rw[hy,List.getD_eq_getElem?_getD,List.getElem?_map,hx];rfl
   rw[fe]at zu vp;rw[Int.natCast_add]at Cj;generalize EW (u+c') l m 0=xs at Cj zu vp hyc;(repeat' ((first|(apply AG<;>intro hc<;>try (exfalso;omega))|(apply AY;omega)|apply AE)<;>conv=>whnf))
   refine KR (λ_=>rfl) rfl (by omega) ?_;(conv=>whnf)
   (repeat' ((first|apply AR|refine AC (Cj) ?_)<;>conv=>whnf))
   refine BQ (λ f=>u-f) (λ(f:Nat)=>f<=u) (λ f=>[(88,.int .i64 f)]) (λ f=>[(58,58,.mx (BJ 3 eO (ot R w c' f)))]) [] [] 0 (by (conv=>whnf);exact ⟨rfl,rfl,rfl⟩) (by omega) ?_;intro f r5 fh;by_cases hf2:f<u
   ·obtain ⟨x,hx⟩ : ∃ x,xs[f]? = some x:=⟨_,zE (by omega)⟩
    have gv:xs[(f:Int).toNat]? = some x:=hx;have bx:=zu.at hx;have hD:=lN N.tob7 bx ue (by omega) (by omega) nn;have Lh:=zn f hf2;have hmc:((List.range w).map λ c'=>(y c').getD f 0)[c']? = some (x/l):=by rw[List.getElem?_map,List.getElem?_range tj,Option.map_some,hyc f x hx]
    have Nl:((List.range w).map λ c'=>(y c').getD f 0).length=w:=by simp
    generalize ((List.range w).map λ c'=>(y c').getD f 0)=row at Lh hmc Nl;have hoa:=mU (n:=w) (j:=c') (i:=f) Lh;rw[if_neg (by omega)]at hoa;have hos:=Amg (n:=w) (j:=c') Lh;have Jw:=iI R w c' f;have Hf:=XT (l:=row.take c') (m:=w) (by rw[List.length_take];omega);have l9:=YN (l:=row.take c') (m:=w) (x:=x/l) (by rw[List.length_take];omega);rw[List.length_take,Nat.min_eq_left (by omega),<-eG hmc]at l9;generalize ot R w c' f=O at *;(repeat' ((first|(apply AG<;>intro hc<;>try (exfalso;omega))|(apply AZ;omega)|(refine A9 (by assumption) ?_ rfl ?_;omega)|(refine FW ?_ (λ r hr => ?_);omega)|apply AE|refine AC (hD) ?_)<;>conv=>whnf))
    cases hoa.symm.trans hr;skip
    have AzS:=XT (l:=row.take (c'+1)) (m:=w) (by rw[List.length_take];omega);refine AZ (by rw[List.length_map];omega) ?_;(conv=>whnf)
    (repeat' ((first|refine GH (by assumption) ?_|fail)<;>conv=>whnf))
    refine FX (enc:=eO) (some (x/l)) rfl (λ e=>by cases e<;>rfl) (by omega) ?_;(conv=>whnf)
    rw[l9];refine oP (by omega) ?_;rw[hos];(conv=>whnf)
    (repeat' ((first|(apply AY;omega)|fail)<;>conv=>whnf))
    exact BF [] (fh (f+1) (by omega) (by omega))
   have ef:f=u:=by omega
   clear fh;have Dq:=Amf R w c';rw[yi]at Dq;rw[ef,Dq];(repeat' ((first|(apply AG<;>intro hc<;>try (exfalso;omega))|(apply AY;omega)|apply AE)<;>conv=>whnf))
   exact BF [] (ch (c'+1) (by omega) (by omega))
  have ec:c'=w:=by omega
  clear ch;rw[ec,Ame hRw];(repeat' ((first|(apply AG<;>intro hc<;>try (exfalso;omega))|apply AE)<;>conv=>whnf))
  refine ⟨.j9 [.sl false (eM R),.int .i64 0],?_,Or.inr ⟨gl,y,by rw[<-hRg],λ c2 tj=>⟨se c2,?_,λ i r s h1 h2=>by rw[hy];exact Mr c2 tj i r s h1 h2⟩⟩⟩
  ·(conv=>whnf)
   refine KR (λ_=>rfl) rfl (by omega) ?_;(conv=>whnf)
   exact AX rfl (IW R 0)
  ·rw[hy]
   intro z hz;obtain ⟨x,hx,rfl⟩:=List.mem_map.1 hz;have zu:=kN (c:=u+c2) (n:=u) ue m 0 (by omega) mw;rw[fe]at zu;exact ((zu x hx).wj ue).le (by omega)
theorem Ama {x:Rat} {b:List Rat} {i:Nat} (h:b[i]? = some x):(b.map λ x=>[x])[i]? = some [x]:=by rw[List.getElem?_map,h];rfl
theorem yD (y:List Rat) (e:Int):A0 (.j9 [.sl false (y.map eQ),.int .i64 e]):=by
 simp only[A0,CE,and_true,true_and];exact IE y
def XZ (x:Rat):Option (Nat × List (List AV)):=some (3,[eQ x])
theorem AiK (N:ah L) (q q1 q2:Bool) (a:List (List Rat)) (b:List Rat) (n k K0:Nat) (cj:a.length=n) (nj : ∀ r∈a,r.length=n) (ic:b.length=n) (hn:1<=n/\n<=52) (Ha:k<=K0) (Ax:1<=K0) (kj:Ms k a) (nk:Bs k b)
  (ux : ∀ r∈CO a (b.map λ x=>[x]),∀ j,Bt K0 (C1 (r.take j))) (Bv:Ms K0 (whole (CO a (b.map λ x=>[x]))))
  (hB:6^n*K0<=1000000000000) (hC:FD (6^n*K0) n n<=1000000000000) {B0:Nat} (yg:FD (6^n*K0) n n+6^n*K0<=B0) :
  ∃ v,Ev L 237 [.sl q (CN q1 a),.sl q2 (b.map eQ)] v/\((¬ NS n a/\v = .j9 [.sl false [],.int .i64 11])\/(NS n a /\ ∃ y:List Rat,v = .j9 [.sl false (y.map eQ),.int .i64 0] /\
   y.length=n/\Bs B0 y /\ ∀ (i:Nat) (r:List Rat) (s:Rat),a[i]? = some r->b[i]? = some s->A4 r y=s)):=by
 have hV:=Ai4 N q q1 a n n cj nj hn hn;obtain ⟨r0,w8⟩ : ∃ r,a[0]? = some r:=⟨_,zE (by omega)⟩;have Dt:a[(0:Int).toNat]? = some r0:=w8;have nn:=nj r0 (zM w8);obtain ⟨v,hS,db⟩:=Aj0 N q q1 true true a (b.map λ x=>[x]) n 1 k K0 cj nj (by rw[List.length_map];exact ic) (λ r hr=>by obtain ⟨x,_,rfl⟩:=List.mem_map.1 hr;rfl) hn (by omega) Ha Ax kj (λ r hr=>by
  obtain ⟨x,hx,rfl⟩:=List.mem_map.1 hr;intro z hz;obtain rfl:=List.mem_singleton.1 hz;exact nk z hx) ux Bv hB hC yg
 refine Ev.xE N.TL rfl rfl ?_;(repeat' ((first|(apply AG<;>intro hc<;>try (exfalso;omega))|apply AR|(refine A9 (by assumption) ?_ rfl ?_;omega)|apply AE|refine AC (hV) ?_)<;>conv=>whnf))
 unfold CU;refine ⟨⟨by omega,by omega,by simp only[EB];omega,by omega⟩,?_⟩;rw[Int.toNat_natCast,ic];(conv=>whnf)
 (repeat' (apply AR<;>conv=>whnf))
 refine BQ (λ i=>n-i) (λ(i:Nat)=>i<=n) (λ i=>[(35,.int .i64 i)]) (λ i=>[(32,32,.mx (fz none ((b.take i).map XZ) n))]) [] [] 0 (by first|exact (by (conv=>whnf);exact ⟨rfl,rfl,rfl⟩)|(rw[List.take_zero,List.map_nil,show fz (none:Option (Nat × List (List AV))) [] n=List.replicate n none by simp [fz]];exact (by (conv=>whnf);exact ⟨rfl,rfl,rfl⟩))) (by omega) ?_;intro i p1 ih;have fo:=dI (z:=(none:Option (Nat × List (List AV)))) (l:=(b.take i).map XZ) (m:=n) (by rw[List.length_map,List.length_take];omega);by_cases hi:i<n
 ·obtain ⟨x,hx⟩ : ∃ x,b[i]? = some x:=⟨_,zE (by omega)⟩
  have gv:b[(i:Int).toNat]? = some x:=hx;have js:=dJ (z:=(none:Option (Nat × List (List AV)))) (x:=XZ x) (l:=(b.take i).map XZ) (m:=n) (by rw[List.length_map,List.length_take];omega);rw[List.length_map,List.length_take,Nat.min_eq_left (by omega),show (b.take i).map XZ++[XZ x]=(b.take (i+1)).map XZ by rw[List.take_add_one,hx,List.map_append];rfl]at js;generalize fz (none:Option (Nat × List (List AV))) ((b.take i).map XZ) n=J at *;have Mu:J.set i (some (3,[[AV.bool (decide (x.num<0)),AV.sl false ((dg x.num.natAbs).map AL),AV.sl false ((dg x.den).map AL)]]))=fz none ((b.take (i+1)).map XZ) n:=js;(repeat' ((first|(apply AG<;>intro hc<;>try (exfalso;omega))|(apply AZ;omega)|(refine A9 (by assumption) ?_ rfl ?_;omega)|apply AE)<;>conv=>whnf))
  unfold AP CJ;refine ⟨by simp,by omega,?_⟩;(conv=>whnf)
  rw[show 0+((i:Int)).toNat=i by omega,Mu];(repeat' ((first|(apply AY;omega)|fail)<;>conv=>whnf))
  exact BF [] (ih (i+1) (by omega) (by omega))
 have ei:i=n:=by omega
 clear ih fo;rw[ei,List.take_of_length_le (by omega),dH (by rw[List.length_map];exact ic),show b.map XZ=BJ 3 eQ (b.map λ x=>[x]) by rw[BJ,List.map_map];rfl];(repeat' ((first|(apply AG<;>intro hc<;>try (exfalso;omega))|(refine KR (λ_=>rfl) rfl ?_ ?_;(first|rfl|simp))|apply AE)<;>conv=>whnf))
 ·exact ic.symm
 (conv=>whnf)
 rcases db with ⟨gl,rfl⟩|⟨gl,y,rfl,hy⟩
 ·(repeat' ((first|(apply AG<;>intro hc<;>try (exfalso;omega))|refine AC (hS) ?_)<;>conv=>whnf))
  refine ⟨.j9 [.sl false [],.int .i64 11],?_,Or.inl ⟨gl,rfl⟩⟩;(conv=>whnf)
  exact AX rfl (IW [] 11)
 ·obtain ⟨se,Bw,xy⟩:=hy 0 (by omega)
  have zn : ∀ e,e<n->(L1 y n 1)[e]? = some [(y 0).getD e 0]:=λ e he=>by simp [L1,he]
  have yi:(L1 y n 1).length=n:=by simp [L1]
  generalize L1 y n 1=R at *;(repeat' ((first|(apply AG<;>intro hc<;>try (exfalso;omega))|apply AR|refine AC (hS) ?_)<;>conv=>whnf))
  rw[yi];refine EV (enc:=eO) none n rfl rfl (by omega) ?_;(conv=>whnf)
  (repeat' (apply AR<;>conv=>whnf))
  refine BQ (λ e=>n-e) (λ(e:Nat)=>e<=n) (λ e=>[(60,.int .i64 e)]) (λ e=>[(57,57,.rw 3 ((EM ((y 0).take e) n).map eO))]) [] [] 0 (by first|exact (by (conv=>whnf);exact ⟨rfl,rfl,rfl⟩)|(rw[List.take_zero,<-YM];exact (by (conv=>whnf);exact ⟨rfl,rfl,rfl⟩))) (by omega) ?_;intro e p2 eh;have Hf:=XT (l:=(y 0).take e) (m:=n) (by rw[List.length_take];omega);by_cases he2:e<n
  ·obtain ⟨x,hx⟩ : ∃ x,(y 0)[e]? = some x:=⟨_,zE (by omega)⟩
   have l9:=YN (l:=(y 0).take e) (m:=n) (x:=x) (by rw[List.length_take];omega);rw[List.length_take,Nat.min_eq_left (by omega),<-eG hx]at l9;have hRe:=zn e he2;rw[show (y 0).getD e 0=x by rw[List.getD_eq_getElem?_getD,hx];rfl]at hRe;have Ay8:R[(e:Int).toNat]? = some [x]:=hRe;have rz:[x][(0:Int).toNat]? = some x:=rfl;generalize EM ((y 0).take e) n=F0 at *;(repeat' ((first|(apply AG<;>intro hc<;>try (exfalso;omega))|(apply AZ;omega)|(refine A9 (by assumption) ?_ rfl ?_;omega)|apply AE)<;>conv=>whnf))
   refine FX (enc:=eO) (some x) rfl (λ e=>by cases e<;>rfl) (by omega) ?_;(conv=>whnf)
   rw[l9];(repeat' ((first|(apply AY;omega)|fail)<;>conv=>whnf))
   exact BF [] (eh (e+1) (by omega) (by omega))
  have ee:e=n:=by omega
  clear eh;rw[ee,List.take_of_length_le (by omega),YL se];(repeat' ((first|(apply AG<;>intro hc<;>try (exfalso;omega))|apply AE)<;>conv=>whnf))
  refine ⟨.j9 [.sl false ((y 0).map eQ),.int .i64 0],?_,Or.inr ⟨gl,y 0,rfl,se,Bw,λ i r s h1 h2 => ?_⟩⟩
  ·(conv=>whnf)
   refine DH (enc:=eQ) (λ_=>rfl) rfl se.symm ?_;(conv=>whnf)
   exact AX rfl (yD (y 0) 0)
  ·exact xy i r [s] h1 (Ama h2)
end Go.e8

namespace Go.e8
structure Pt where
 x:Rat
 y:Rat
 w:Rat
def Anx (g:List Pt) (f:Pt->Rat):Rat:=g.foldl (λ s p=>s+f p) 0
def rhs (g:List Pt) (k:Nat):Rat:=Anx g λ p=>p.w*p.x^k*p.y
def Wh (k:Nat) (x:Rat):Prop := ∃ z:Int,x=(z:Rat)/\z.natAbs<=2^k
theorem Wh.le {k l:Nat} {x:Rat} (h:Wh k x) (hl:k<=l):Wh l x:=by
 obtain ⟨z,e,b⟩:=h;exact ⟨z,e,Nat.le_trans b (Nat.pow_le_pow_right (by omega) hl)⟩
theorem Wh.mul {k l:Nat} {x y:Rat} (hx:Wh k x) (hy:Wh l y):Wh (k+l) (x*y):=by
 obtain ⟨z,rfl,b⟩:=hx;obtain ⟨u,rfl,c⟩:=hy;exact ⟨z*u,by rw[Rat.intCast_mul],by rw[Int.natAbs_mul,Nat.pow_add];exact Nat.mul_le_mul b c⟩
theorem Wh.add {k:Nat} {x y:Rat} (hx:Wh k x) (hy:Wh k y):Wh (k+1) (x+y):=by
 obtain ⟨z,rfl,b⟩:=hx;obtain ⟨u,rfl,c⟩:=hy;refine ⟨z+u,by rw[Rat.intCast_add],?_⟩;rw[Nat.pow_succ];have:=Int.natAbs_add_le z u
 omega
theorem Wh.neg {k:Nat} {x:Rat} (hx:Wh k x):Wh k (-x):=by
 obtain ⟨z,rfl,b⟩:=hx;exact ⟨-z,by rw[Rat.intCast_neg],by rw[Int.natAbs_neg];exact b⟩
theorem Wh.sub {k:Nat} {x y:Rat} (hx:Wh k x) (hy:Wh k y):Wh (k+1) (x-y):=by
 rw[Rat.sub_eq_add_neg];exact hx.add hy.neg
theorem Wh.zero (k:Nat):Wh k 0:=⟨0,rfl,Nat.zero_le _⟩
theorem Wh.bt {k:Nat} {x:Rat} (h:Wh k x):Bt k x:=by
 obtain ⟨z,rfl,b⟩:=h;exact Bt.ofInt b
theorem Wh.dot {k l:Nat} : ∀ {a b:List Rat},(∀ x∈a,Wh k x)->(∀ x∈b,Wh l x)->Wh (k+l+a.length) (A4 a b)
 | [],b,_,_=>by cases b<;>exact Wh.zero _
 | x::a,[],_,_=>Wh.zero _
 | x::a,y::b,ha,hb=>by
  rw[A4,List.length_cons,<-Nat.add_assoc];exact (((ha x List.mem_cons_self).mul (hb y List.mem_cons_self)).le (by omega)).add (Wh.dot (λ z hz=>ha z (List.mem_cons_of_mem _ hz)) λ z hz=>hb z (List.mem_cons_of_mem _ hz))
theorem ZU (y:Rat):y*(y.den:Rat)=(y.num:Rat):=by
 have h:=Rat.num_divInt_den y;rw[Rat.divInt_eq_div]at h;have h0:((y.den:Int):Rat)≠0:=λ e=>by
  have:((y.den:Int):Rat)=((0:Int):Rat):=e
  have:=Rat.intCast_inj.1 this
  have:=y.den_pos
  omega
 have h2:=Rat.div_mul_cancel h0 (a:=(y.num:Rat));rw[h,Rat.intCast_natCast]at h2;exact h2
theorem lD {y:Rat} {T:Nat} {z:Int} (h:(T:Rat)*y=(z:Rat)):y.den ∣ T:=by
 have h1:y*(y.den:Rat)=(y.num:Rat):=ZU y;have h2:(((T:Int)*y.num:Int):Rat)=((z*(y.den:Int):Int):Rat):=by
  rw[Rat.intCast_mul,Rat.intCast_mul,<-h1,<-h,Rat.intCast_natCast,Rat.intCast_natCast,Rat.mul_assoc]
 have h3:=Rat.intCast_inj.1 h2;have h4:(y.den:Int) ∣ (T:Int)*y.num:=⟨z,by rw[h3,Int.mul_comm]⟩;have h5:y.den ∣ T*y.num.natAbs:=by
  have:=Int.natAbs_dvd_natAbs.2 h4
  simpa [Int.natAbs_mul] using this
 exact Nat.Coprime.dvd_of_dvd_mul_right (Nat.Coprime.symm y.reduced) h5
theorem AmX {S M:Nat} {x:Rat} (hS:S ∣ M) (hM : ∃ z:Int,(M:Rat)*x=(z:Rat)) : ∃ S':Nat,X1 (S:Rat) x=(S':Rat)/\S' ∣ M/\S ∣ S' /\ ∃ z:Int,(S':Rat)*x=(z:Rat):=by
 obtain ⟨T,rfl⟩:=hS;obtain ⟨z,hz⟩:=hM;have h1:((S:Rat)*x).den ∣ T:=lD (z:=z) (by rw[<-hz,Rat.natCast_mul];grind);have h2:((S:Rat)*x)*((((S:Rat)*x).den:Nat):Rat)=(((S:Rat)*x).num:Rat):=ZU _;generalize ((S:Rat)*x).num=u at h2;refine ⟨S*((S:Rat)*x).den,?_,Nat.mul_dvd_mul_left S h1,Nat.dvd_mul_right _ _,u,?_⟩
 ·rw[X1,Rat.natCast_mul]
 ·rw[Rat.natCast_mul];grind
theorem Vj {M:Nat} : ∀ (l:List Rat) (S:Nat),S ∣ M->(∀ x∈l,∃ z:Int,(M:Rat)*x=(z:Rat)) -> ∃ S':Nat,l.foldl X1 (S:Rat)=(S':Rat)/\S' ∣ M/\S ∣ S' /\ ∀ x∈l,∃ z:Int,(S':Rat)*x=(z:Rat)
 | [],S,hS,_=>⟨S,rfl,hS,Nat.dvd_refl S,λ x hx=>by cases hx⟩
 | x::l,S,hS,h=>by
  obtain ⟨S1,e1,d1,d2,z,hz⟩:=AmX hS (h x List.mem_cons_self);obtain ⟨S2,e2,d3,d4,h2⟩:=Vj l S1 d1 λ y hy=>h y (List.mem_cons_of_mem _ hy)
  refine ⟨S2,by rw[List.foldl_cons,e1,e2],d3,Nat.dvd_trans d2 d4,λ y hy => ?_⟩;rcases List.mem_cons.1 hy with rfl|hy
  ·obtain ⟨k,rfl⟩:=d4
   exact ⟨z*(k:Int),by rw[Rat.natCast_mul,Rat.intCast_mul,<-hz,Rat.intCast_natCast];grind⟩
  ·exact h2 y hy
theorem Am0 {M:Nat} {l:List Rat} (h : ∀ x∈l,∃ z:Int,(M:Rat)*x=(z:Rat)) : ∃ S:Nat,C1 l=(S:Rat)/\S ∣ M /\ ∀ x∈l,∃ z:Int,x*C1 l=(z:Rat):=by
 obtain ⟨S,e,d,_,h2⟩:=Vj l 1 (Nat.one_dvd M) h;refine ⟨S,e,d,λ x hx => ?_⟩;obtain ⟨z,hz⟩:=h2 x hx;exact ⟨z,by rw[Rat.mul_comm,<-hz];congr 1⟩
theorem Alx {α:Type} {l:List α} (h:l.length=1) : ∃ a,l=[a]:=by
 rcases l with _|⟨a,_|⟨b,l⟩⟩<;>simp at h
 exact ⟨a,rfl⟩
theorem Tn {α:Type} {l:List α} (h:l.length=2) : ∃ a b,l=[a,b]:=by
 obtain ⟨a,r,rfl⟩ : ∃ a r,l=a::r:=by
  cases l with
  | nil=>simp at h
  | cons a r=>exact ⟨a,r,rfl⟩
 obtain ⟨b,rfl⟩:=Alx (l:=r) (by simpa using h);exact ⟨_,_,rfl⟩
def hQ (S:GJ):Nat->Rat
 | 0=>S.d
 | j+1=>A4 S.c (wQ S j)
theorem zH {l:List Rat} : ∀ {n i:Nat},D7 l n<=i->i<n->l.getD i 0=0
 | 0,i,_,h=>by omega
 | n+1,i,h,hi=>by
  rw[D7]at h;split at h
  ·rename_i h0
   by_cases e:i=n
   ·subst e;exact h0
   ·exact zH h (by omega)
  ·omega
theorem Xr (l:List Rat) (i:Nat):(C7 l).getD i 0=l.getD i 0:=by
 by_cases h:i<D7 l l.length
 ·have:=aO l l.length
  rw[C7,List.getD_eq_getElem?_getD,List.getElem?_take_of_lt h,List.getD_eq_getElem?_getD]
 ·rw[rV (by rw[jI];omega)]
  by_cases h2:i<l.length
  ·exact (zH (by omega) h2).symm
  ·exact (rV (by omega)).symm
theorem AnF {r:List Rat} (h:C7 r=r) (hn:r.length≠0):r.getD (r.length-1) 0≠0:=by
 have hl:=jI r;rw[h]at hl;obtain ⟨n,tp⟩ : ∃ n,r.length=n+1:=⟨r.length-1,by omega⟩;rw[tp,D7]at hl;rw[tp,Nat.add_sub_cancel];intro h0;rw[if_pos h0]at hl;have:=aO r n
 omega
def B7 (B A:List Rat) (n:Nat):GJ where
 a:=(List.range n).map λ i=>if i=0 then (List.range n).map λ k => -(A.getD (k+1) 0) else GE n ((i-1:Nat):Int)
 b:=GE n 0
 c:=(List.range n).map λ i=>B.getD (i+1) 0-B.getD 0 0*A.getD (i+1) 0
 d:=B.getD 0 0
def FY (x:Rat):Rat:=if x.num<0 then -x else x
def lv (f:Rat) (r t:List Rat):List Rat:=List.zipWith (λ x y=>x-f*y) r t
theorem pQ {f:Rat} {r t:List Rat} (h:r.length=t.length):(lv f r t).length=r.length:=by simp [lv,h]
theorem yS {f:Rat} {r t:List Rat} {j:Nat} {x y:Rat} (hx:r[j]? = some x) (hy:t[j]? = some y):(lv f r t)[j]? = some (x-f*y):=by
 simp [lv,List.getElem?_zipWith,hx,hy]
theorem yU {f:Rat} : ∀ {r t:List Rat} {z:Rat},z∈lv f r t -> ∃ x∈r,∃ y∈t,z=x-f*y
 | [],_,z,h=>by simp [lv]at h
 | _::_,[],z,h=>by simp [lv]at h
 | x::r,y::t,z,h=>by
  simp only[lv,List.zipWith_cons_cons,List.mem_cons]at h;rcases h with rfl|h
  ·exact ⟨x,by simp,y,by simp,rfl⟩
  ·obtain ⟨a,ha,b,rh,e⟩:=yU h
   exact ⟨a,by simp [ha],b,by simp [rh],e⟩
theorem pP (f:Rat) : ∀ (r t X:List Rat),r.length=t.length->A4 (lv f r t) X=A4 r X-f*A4 t X
 | [],[],X,_=>by
  show A4 [] X=_;simp only[A4];grind
 | x::r,y::t,[],_=>by
  simp only[lv,List.zipWith_cons_cons,A4];grind
 | x::r,y::t,z::X,h=>by
  have ih:=pP f r t X (by simpa using h);simp only[lv]at ih;simp only[lv,List.zipWith_cons_cons,A4,ih];grind
theorem yT {f:Rat} {r t:List Rat} (h:r.length=t.length) (j:Nat):(lv f r t).getD j 0=r.getD j 0-f*t.getD j 0:=by
 rw[List.getD_eq_getElem?_getD,List.getD_eq_getElem?_getD,List.getD_eq_getElem?_getD];cases hx:r[j]? with
 | none =>
  have h1:=List.getElem?_eq_none_iff.1 hx;rw[List.getElem?_eq_none (by rw[pQ h];exact h1),List.getElem?_eq_none (l:=t) (by omega)];show (0:Rat)=0-f*0;grind
 | some x =>
  have h1:=(zS hx).1;obtain ⟨y,hy⟩ : ∃ y,t[j]? = some y:=⟨_,zE (by omega)⟩;rw[yS hx hy,hy];rfl
theorem zZ (l:List Rat) (p:Rat) (j:Nat):(l.map (· / p)).getD j 0=l.getD j 0/p:=by
 rw[List.getD_eq_getElem?_getD,List.getD_eq_getElem?_getD,List.getElem?_map];cases l[j]? with
 | none=>show (0:Rat)=0/p;rw[Rat.div_def,Rat.zero_mul]
 | some x=>rfl
theorem qI (p:Rat) : ∀ (r X:List Rat),A4 (r.map (· / p)) X=A4 r X/p
 | [],X=>by
  show A4 [] X=A4 [] X/p;simp only[A4,Rat.div_def];grind
 | x::r,[]=>by simp only[List.map_cons,A4,Rat.div_def];grind
 | x::r,z::X=>by
  have ih:=qI p r X;simp only[Rat.div_def]at ih;simp only[List.map_cons,A4,ih,Rat.div_def];grind
theorem qM {n i:Nat} {v:List Rat} (hv:v.length=n) (hi:i<n):A4 (GE n i) v=v.getD i 0:=by
 have e:=congrArg (λ l=>l.getD i 0) (AlX hv);simp only[mO,sG,List.map_map]at e;rw[mE,if_pos hi]at e;exact e
structure EK (T B:List (List Rat)) (n W:Nat) (m:List (List Rat)) (k c:Nat):Prop where
 len:m.length=n
 wid : ∀ r∈m,r.length=n+W
 mo : ∀ w:List Rat,EU (CO T B) w->EU m w
 kr : ∀ w:List Rat,EU m w->EU (CO T B) w
 le:k<=c
 cn:c<=n
 bf:k=c -> ∀ (i:Nat) (r:List Rat),m[i]? = some r -> ∀ j,j<c->r.getD j 0=if i=j then 1 else 0
 sk:k<c -> ¬ NS n T
theorem EK.start {T B:List (List Rat)} {n W:Nat} (hT:Sq n T) (hB:B.length=n) (hW : ∀ r∈B,r.length=W):EK T B n W (CO T B) 0 0:=by
 refine ⟨?_,?_,λ_ h=>h,λ_ h=>h,Nat.le_refl _,Nat.zero_le _,λ_ _ _ _ j h=>absurd h (by omega),λ h=>absurd h (by omega)⟩
 ·rw[CO,List.length_zipWith,hT.l,hB,Nat.min_self]
 ·intro r hr
  obtain ⟨i,hi⟩:=List.getElem?_of_mem hr;rw[CO,List.getElem?_zipWith]at hi;cases ht:T[i]? with
  | none=>rw[ht]at hi;cases hi
  | some t =>
   cases hb:B[i]? with
   | none=>rw[ht,hb]at hi;cases hi
   | some b =>
    rw[ht,hb]at hi;obtain rfl:=Option.some.inj hi;rw[List.length_append,hT.at ht,hW b (zM hb)]
theorem EK.ns {T B:List (List Rat)} {W:Nat} {n c:Nat} {m:List (List Rat)} (h:EK T B n W m c c) (hT:Sq n T) (hBl:B.length=n) (hc:c<n) (hz : ∀ (q:Nat) (r:List Rat),c<=q->m[q]? = some r->r.getD c 0=0) : ¬ NS n T:=by
 intro gl;have fe:=h.len;have vp:((m.take c).map λ r => -1*r.getD c 0).length=c:=by rw[List.length_map,List.length_take];omega
 have Pm : ∀ (i:Nat) (r:List Rat),i<c->m[i]? = some r->((m.take c).map λ r => -1*r.getD c 0).getD i 0 = -1*r.getD c 0:=λ i r hi hr=>by
  rw[List.getD_eq_getElem?_getD,List.getElem?_map,List.getElem?_take,if_pos hi,hr];rfl
 generalize ((m.take c).map λ r => -1*r.getD c 0)=x at *;have mn:(x++1::List.replicate (n-c-1) (0:Rat)).length=n:=by simp [vp];omega
 have hK:EU m ((x++1::List.replicate (n-c-1) (0:Rat))++List.replicate W 0):=by
  intro r hr;obtain ⟨i,hi⟩:=List.getElem?_of_mem hr;have ak:=(zS hi).1;have dp:=h.wid r hr;have e1:r=(r.take c++r.getD c 0::(r.drop (c+1)).take (n-c-1))++r.drop n:=by
   have e3:r.take n=r.take c++r.getD c 0::(r.drop (c+1)).take (n-c-1):=by
    have e4:(r.drop c).take (n-c)=r.getD c 0::(r.drop (c+1)).take (n-c-1):=by
     rw[List.drop_eq_getElem_cons (show c<r.length by omega),show n-c=(n-c-1)+1 by omega,List.take_succ_cons,List.getD_eq_getElem?_getD,zE (by omega)];simp
    rw[<-e4,<-List.take_add,show c+(n-c)=n by omega]
   rw[<-e3,List.take_append_drop]
  rw[e1,S4 _ _ _ _ (by simp [vp];omega),cW,S4 _ _ _ _ (by rw[List.length_take,vp];omega),A4,cW];by_cases hic:i<c
  ·have e2:r.take c=GE c i:=by
    refine List.ext_getElem? λ j => ?_
    by_cases hj:j<c
    ·obtain ⟨y,hy⟩ : ∃ y,r[j]? = some y:=⟨_,zE (by omega)⟩
     have h3:=h.bf rfl i r hi j hj;rw[List.getD_eq_getElem?_getD,hy]at h3;rw[List.getElem?_take,if_pos hj,hy,GE,List.getElem?_map,List.getElem?_range hj];show some y=some (if (j:Int)=(i:Int) then (1:Rat) else 0);rw[show y=(if i=j then 1 else 0:Rat) from h3];by_cases h5:i=j
     ·rw[if_pos h5,if_pos (by omega)]
     ·rw[if_neg h5,if_neg (by omega)]
    ·rw[List.getElem?_eq_none (by rw[List.length_take];omega),List.getElem?_eq_none (by rw[vX];omega)]
   rw[e2,qM vp hic,Pm i r hic hi];grind
  ·have e2:r.take c=List.replicate c 0:=by
    refine List.ext_getElem? λ j => ?_
    by_cases hj:j<c
    ·obtain ⟨y,hy⟩ : ∃ y,r[j]? = some y:=⟨_,zE (by omega)⟩
     have h3:=h.bf rfl i r hi j hj;rw[List.getD_eq_getElem?_getD,hy,if_neg (by omega)]at h3;rw[List.getElem?_take,if_pos hj,hy,List.getElem?_replicate,if_pos hj];exact congrArg some h3
    ·rw[List.getElem?_eq_none (by rw[List.length_take];omega),List.getElem?_eq_none (by simp;omega)]
   rw[e2,lI,hz i r (by omega) hi];grind
 have Ax:=h.kr _ hK;have hKT:EU T (x++1::List.replicate (n-c-1) (0:Rat)):=by
  intro t ht;obtain ⟨i,hi⟩:=List.getElem?_of_mem ht;have ak:=(zS hi).1;rw[hT.l]at ak;obtain ⟨b,hb⟩ : ∃ b,B[i]? = some b:=⟨_,zE (by omega)⟩;have h1:=Ax (t++b) (zM (i:=i) (by
   rw[CO,List.getElem?_zipWith,hi,hb]))
  rw[S4 _ _ _ _ (by rw[hT.at hi,mn]),cW,Rat.add_zero]at h1;exact h1
 have h1:=gl _ mn hKT c;rw[List.getD_eq_getElem?_getD,List.getElem?_append_right (by omega),vp,Nat.sub_self]at h1;exact absurd (show (1:Rat)=0 from h1) (by decide)
theorem EK.skip {T B:List (List Rat)} {W:Nat} {n k c:Nat} {m:List (List Rat)} (h:EK T B n W m k c) (hT:Sq n T) (hBl:B.length=n) (hc:c<n) (hz : ∀ (q:Nat) (r:List Rat),k<=q->m[q]? = some r->r.getD c 0=0):EK T B n W m k (c+1):=by
 refine ⟨h.len,h.wid,h.mo,h.kr,Nat.le_succ_of_le h.le,hc,λ e=>absurd h.le (by omega),λ_ => ?_⟩;by_cases e:k<c
 ·exact h.sk e
 ·have hle:=h.le
  obtain rfl:k=c:=by omega
  exact h.ns hT hBl hc hz
theorem EK.swap {T B:List (List Rat)} {W:Nat} {n k c i:Nat} {m:List (List Rat)} {r t:List Rat} (h:EK T B n W m k c) (hi:m[i]? = some r) (hk:m[k]? = some t) (hki:k<=i):EK T B n W ((m.set i t).set k r) k c:=by
 have ak:=(zS hi).1;have qi:=(zS hk).1;have ib : ∀ (q:Nat) (x:List Rat),((m.set i t).set k r)[q]? = some x->(q=k/\x=r)\/(q≠k/\q=i/\x=t)\/(q≠k/\q≠i/\m[q]? = some x):=λ q x hx=>by
  rw[List.getElem?_set,List.getElem?_set,List.length_set]at hx;by_cases e1:k=q
  ·rw[if_pos e1,if_pos (by omega)]at hx
   exact Or.inl ⟨e1.symm,(Option.some.inj hx).symm⟩
  ·rw[if_neg e1]at hx
   by_cases e2:i=q
   ·rw[if_pos e2,if_pos (by omega)]at hx
    exact Or.inr (Or.inl ⟨Ne.symm e1,e2.symm,(Option.some.inj hx).symm⟩)
   ·rw[if_neg e2]at hx
    exact Or.inr (Or.inr ⟨Ne.symm e1,Ne.symm e2,hx⟩)
 have jt : ∀ x,x∈(m.set i t).set k r->x∈m:=λ x hx=>by
  obtain ⟨q,hq⟩:=List.getElem?_of_mem hx;rcases ib q x hq with ⟨_,rfl⟩|⟨_,_,rfl⟩|⟨_,_,h3⟩
  ·exact zM hi
  ·exact zM hk
  ·exact zM h3
 refine ⟨by rw[List.length_set,List.length_set];exact h.len,λ x hx=>h.wid x (jt x hx),λ v hv x hx=>h.mo v hv x (jt x hx),λ w hw=>h.kr w λ x hx => ?_,h.le,h.cn,?_,h.sk⟩
 ·obtain ⟨q,hq⟩:=List.getElem?_of_mem hx
  have bn:A4 r w=0:=hw r (zM (i:=k) (by rw[List.getElem?_set,if_pos rfl,if_pos (by rw[List.length_set];exact qi)]));by_cases e1:q=i
  ·subst e1
   cases hi.symm.trans hq;exact bn
  ·by_cases e2:q=k
   ·subst e2
    cases hk.symm.trans hq;exact hw t (zM (i:=i) (by rw[List.getElem?_set,if_neg (Ne.symm (Ne.symm e1)),List.getElem?_set,if_pos rfl,if_pos ak]))
   ·exact hw x (zM (i:=q) (by rw[List.getElem?_set,if_neg (Ne.symm e2),List.getElem?_set,if_neg (Ne.symm e1)];exact hq))
 intro e q x hx j hj;rcases ib q x hx with ⟨e1,rfl⟩|⟨_,e2,rfl⟩|⟨_,_,h3⟩
 ·rw[if_neg (by omega),h.bf e i x hi j hj,if_neg (by omega)]
 ·rw[if_neg (by omega),h.bf e k x hk j hj,if_neg (by omega)]
 ·exact h.bf e q x h3 j hj
theorem EK.scale {T B:List (List Rat)} {W:Nat} {n k c:Nat} {m:List (List Rat)} {t:List Rat} (p:Rat) (h:EK T B n W m k c) (hk:m[k]? = some t) (hp:p≠0):EK T B n W (m.set k (t.map (· / p))) k c:=by
 refine ⟨by rw[List.length_set];exact h.len,?_,?_,λ w hw=>h.kr w λ x hx => ?_,h.le,h.cn,?_,h.sk⟩
 ·intro x hx
  rcases XW hx with rfl|⟨j,_,hj⟩
  ·rw[List.length_map];exact h.wid t (zM hk)
  ·exact h.wid x (zM hj)
 ·intro v hv x hx
  rcases XW hx with rfl|⟨j,_,hj⟩
  ·rw[qI,h.mo v hv t (zM hk),Rat.div_def,Rat.zero_mul]
  ·exact h.mo v hv x (zM hj)
 ·obtain ⟨q,hq⟩:=List.getElem?_of_mem hx
  have qi:=(zS hk).1;by_cases e:q=k
  ·subst e
   cases hk.symm.trans hq;have h1:=hw (t.map (· / p)) (zM (i:=q) (by rw[List.getElem?_set,if_pos rfl,if_pos qi]));rw[qI]at h1;have h2:A4 t w=A4 t w/p*p:=by rw[Rat.div_def,Rat.mul_assoc,Rat.inv_mul_cancel _ hp,Rat.mul_one]
   rw[h2,h1,Rat.zero_mul]
  ·exact hw x (zM (i:=q) (by rw[List.getElem?_set,if_neg (Ne.symm e)];exact hq))
 ·intro e q x hx j hj
  rw[List.getElem?_set]at hx;by_cases e1:k=q
  ·rw[if_pos e1]at hx
   split at hx
   ·obtain rfl:=Option.some.inj hx
    rw[zZ,h.bf e k t hk j hj,if_neg (by omega),if_neg (by omega),Rat.div_def,Rat.zero_mul]
   ·cases hx
  ·rw[if_neg e1]at hx
   exact h.bf e q x hx j hj
structure OV (T B:List (List Rat)) (n W K:Nat) (k c:Nat) (t:List Rat) (m:List (List Rat)) (i:Nat):Prop where
 red:EK T B n W m k c
 ht:m[k]? = some t
 one:t.getD c 0=1
 dn : ∀ (q:Nat) (r:List Rat),q<i->q≠k->m[q]? = some r->r.getD c 0=0
 lo : ∀ (q:Nat) (r:List Rat),q<i->m[q]? = some r->Bs (4*K+1) r
 hi : ∀ (q:Nat) (r:List Rat),i<=q->q≠k->m[q]? = some r->Bs K r
 bt:Bs (2*K) t
theorem OV.start {T B:List (List Rat)} {W:Nat} {n K k c:Nat} {m:List (List Rat)} {t:List Rat} (h:EK T B n W m k c) (hk:m[k]? = some t) (hp:t.getD c 0≠0) (hM : ∀ (q:Nat) (r:List Rat),m[q]? = some r->Bs K r):OV T B n W K k c (t.map (· / t.getD c 0)) (m.set k (t.map (· / t.getD c 0))) 0:=by
 have qi:=(zS hk).1;have yx:=hM k t hk;refine ⟨h.scale _ hk hp,by rw[List.getElem?_set,if_pos rfl,if_pos qi],by rw[zZ,Rat.div_def,Rat.mul_inv_cancel _ hp],λ q r h1=>absurd h1 (by omega),λ q r h1=>absurd h1 (by omega),λ q r _ h2 hq => ?_,λ y hy => ?_⟩
 ·rw[List.getElem?_set,if_neg (Ne.symm h2)]at hq
  exact hM q r hq
 ·obtain ⟨z,hz,rfl⟩:=List.mem_map.1 hy
  exact ((yx z hz).wj (Bs.getD yx c)).le (by omega)
theorem OV.same {T B:List (List Rat)} {W:Nat} {n K k c i:Nat} {m:List (List Rat)} {t:List Rat} (h:OV T B n W K k c t m i) (hz:i≠k -> ∀ r,m[i]? = some r->r.getD c 0=0):OV T B n W K k c t m (i+1):=by
 refine ⟨h.red,h.ht,h.one,λ q r h1 h2 hq => ?_,λ q r h1 hq => ?_,λ q r h1=>h.hi q r (by omega),h.bt⟩
 ·by_cases e:q=i
  ·subst e;exact hz h2 r hq
  ·exact h.dn q r (by omega) h2 hq
 ·by_cases e:q=i
  ·by_cases e2:q=k
   ·subst e2
    cases h.ht.symm.trans hq;exact λ y hy=>(h.bt y hy).le (by omega)
   ·exact λ y hy=>(h.hi q r (by omega) e2 hq y hy).le (by omega)
  ·exact h.lo q r (by omega) hq
theorem OV.step {T B:List (List Rat)} {W:Nat} {n K k c i:Nat} {m:List (List Rat)} {t r:List Rat} (h:OV T B n W K k c t m i) (hi:m[i]? = some r) (pc:i≠k):OV T B n W K k c t (m.set i (lv (r.getD c 0) r t)) (i+1):=by
 have ak:=(zS hi).1;have dp:=h.red.wid r (zM hi);have cp:=h.red.wid t (zM h.ht);have Ia:r.length=t.length:=by omega
 have ib : ∀ (q:Nat) (x:List Rat),(m.set i (lv (r.getD c 0) r t))[q]? = some x->(q=i/\x=lv (r.getD c 0) r t)\/(q≠i/\m[q]? = some x):=λ q x hx=>by
  rw[List.getElem?_set]at hx;by_cases e:i=q
  ·rw[if_pos e,if_pos (by omega)]at hx
   exact Or.inl ⟨e.symm,(Option.some.inj hx).symm⟩
  ·rw[if_neg e]at hx
   exact Or.inr ⟨Ne.symm e,hx⟩
 refine ⟨⟨by rw[List.length_set];exact h.red.len,?_,?_,λ w hw=>h.red.kr w λ x hx => ?_,h.red.le,h.red.cn,?_,h.red.sk⟩,by rw[List.getElem?_set,if_neg pc];exact h.ht,h.one,?_,?_,?_,h.bt⟩
 ·intro x hx
  obtain ⟨q,hq⟩:=List.getElem?_of_mem hx;rcases ib q x hq with ⟨_,rfl⟩|⟨_,h2⟩
  ·rw[pQ Ia];exact dp
  ·exact h.red.wid x (zM h2)
 ·intro v hv x hx
  obtain ⟨q,hq⟩:=List.getElem?_of_mem hx;rcases ib q x hq with ⟨_,rfl⟩|⟨_,h2⟩
  ·rw[pP _ _ _ _ Ia,h.red.mo v hv r (zM hi),h.red.mo v hv t (zM h.ht)]
   grind
  ·exact h.red.mo v hv x (zM h2)
 ·obtain ⟨q,hq⟩:=List.getElem?_of_mem hx
  have yw:A4 t w=0:=hw t (zM (i:=k) (by rw[List.getElem?_set,if_neg pc];exact h.ht));by_cases e:q=i
  ·subst e
   cases hi.symm.trans hq;have h1:=hw _ (zM (i:=q) (by rw[List.getElem?_set,if_pos rfl,if_pos ak]));rw[pP _ _ _ _ Ia,yw]at h1;grind
  ·exact hw x (zM (i:=q) (by rw[List.getElem?_set,if_neg (Ne.symm e)];exact hq))
 ·intro e q x hx j hj
  rcases ib q x hx with ⟨e1,rfl⟩|⟨_,h2⟩
  ·rw[yT Ia,h.red.bf e i r hi j hj,h.red.bf e k t h.ht j hj,e1,if_neg (show ¬ k=j by omega)]
   grind
  ·exact h.red.bf e q x h2 j hj
 ·intro q x h1 h2 hx
  rcases ib q x hx with ⟨e1,rfl⟩|⟨e1,h3⟩
  ·rw[yT Ia,h.one];grind
  ·exact h.dn q x (by omega) h2 h3
 ·intro q x h1 hx
  rcases ib q x hx with ⟨e1,rfl⟩|⟨e1,h3⟩
  ·intro y hy
   obtain ⟨a,ha,b,rh,rfl⟩:=yU hy;have Gk:=h.hi i r (Nat.le_refl _) pc hi;exact ((Gk a ha).ia ((Bs.getD Gk c).mul (h.bt b rh))).le (by omega)
  ·exact h.lo q x (by omega) h3
 ·intro q x h1 h2 hx
  rcases ib q x hx with ⟨e1,rfl⟩|⟨e1,h3⟩
  ·omega
  ·exact h.hi q x (by omega) h2 h3
theorem OV.fin {T B:List (List Rat)} {W:Nat} {n K k c:Nat} {m:List (List Rat)} {t:List Rat} (h:OV T B n W K k c t m n) (hc:c<n):EK T B n W m (k+1) (c+1) /\ ∀ (q:Nat) (r:List Rat),m[q]? = some r->Bs (4*K+1) r:=by
 have m7 : ∀ (q:Nat) (r:List Rat),m[q]? = some r->q<n:=λ q r hq=>by
  have:=(zS hq).1
  rw[h.red.len]at this;exact this
 refine ⟨⟨h.red.len,h.red.wid,h.red.mo,h.red.kr,Nat.succ_le_succ h.red.le,hc,λ e q r hq j hj => ?_,λ AzU=>h.red.sk (by omega)⟩,λ q r hq=>h.lo q r (m7 q r hq) hq⟩;have e2:k=c:=by omega
 by_cases e3:j=c
 ·by_cases e4:q=k
  ·subst e4
   cases h.ht.symm.trans hq;rw[e3,h.one,if_pos e2]
  ·rw[e3,h.dn q r (m7 q r hq) e4 hq,if_neg (by omega)]
 ·exact h.red.bf e2 q r hq j (by omega)
theorem EK.row {T B:List (List Rat)} {n W i:Nat} {m:List (List Rat)} {r:List Rat} (h:EK T B n W m n n) (hi:m[i]? = some r):r.take n=GE n i:=by
 have dp:=h.wid r (zM hi);refine List.ext_getElem? λ j => ?_
 by_cases hj:j<n
 ·obtain ⟨y,hy⟩ : ∃ y,r[j]? = some y:=⟨_,zE (by omega)⟩
  have h3:=h.bf rfl i r hi j hj;rw[List.getD_eq_getElem?_getD,hy]at h3;rw[List.getElem?_take,if_pos hj,hy,GE,List.getElem?_map,List.getElem?_range hj];show some y=some _;rw[show y=(if i=j then 1 else 0:Rat) from h3];show some (if i=j then (1:Rat) else 0)=some (if (j:Int)=(i:Int) then (1:Rat) else 0);by_cases h5:i=j
  ·rw[if_pos h5,if_pos (by omega)]
  ·rw[if_neg h5,if_neg (by omega)]
 ·rw[List.getElem?_eq_none (by rw[List.length_take];omega),List.getElem?_eq_none (by rw[vX];omega)]
theorem EK.sol {T:List (List Rat)} {b:List Rat} {n:Nat} {m:List (List Rat)} (h:EK T (b.map λ x=>[x]) n 1 m n n) (hT:Sq n T) (hb:b.length=n) : ∀ (i:Nat) (t:List Rat) (s:Rat),T[i]? = some t->b[i]? = some s->A4 t (m.map λ r=>r.getD n 0)=s:=by
 intro i t s ht hs;have se:(m.map λ r=>r.getD n 0).length=n:=by rw[List.length_map];exact h.len
 have hK:EU m ((m.map λ r=>r.getD n 0)++[-1]):=by
  intro r hr;obtain ⟨j,hj⟩:=List.getElem?_of_mem hr;have dm:=(zS hj).1;rw[h.len]at dm;have dp:=h.wid r hr;rw[<-List.take_append_drop n r,S4 _ _ _ _ (by rw[List.length_take,se];omega),h.row hj,qM se dm];have e1:(m.map λ r=>r.getD n 0).getD j 0=r.getD n 0:=by
   rw[List.getD_eq_getElem?_getD,List.getElem?_map,hj];rfl
  have e2:r.drop n=[r.getD n 0]:=by
   rw[List.drop_eq_getElem_cons (by omega),List.drop_of_length_le (by omega),List.getD_eq_getElem?_getD,zE (by omega)];rfl
  rw[e1,e2];simp only[A4];grind
 have h1:=h.kr _ hK (t++[s]) (zM (i:=i) (by
  rw[CO,List.getElem?_zipWith,ht,List.getElem?_map,hs];rfl))
 rw[S4 _ _ _ _ (by rw[hT.at ht,se])]at h1;simp only[A4]at h1;grind
theorem EK.nsT {T B:List (List Rat)} {n W:Nat} {m:List (List Rat)} (h:EK T B n W m n n) (hT:Sq n T):NS n T:=by
 intro X hX hk j;have hK:EU (CO T B) (X++List.replicate W 0):=by
  intro r hr;obtain ⟨i,hi⟩:=List.getElem?_of_mem hr;rw[CO,List.getElem?_zipWith]at hi;cases ht:T[i]? with
  | none=>rw[ht]at hi;cases hi
  | some t =>
   cases hb:B[i]? with
   | none=>rw[ht,hb]at hi;cases hi
   | some b =>
    rw[ht,hb]at hi;obtain rfl:=Option.some.inj hi;rw[S4 _ _ _ _ (by rw[hT.at ht,hX]),cW,Rat.add_zero];exact hk t (zM ht)
 have hm:=h.mo _ hK;by_cases hj:j<n
 ·obtain ⟨r,hr⟩ : ∃ r,m[j]? = some r:=⟨_,zE (by rw[h.len];exact hj)⟩
  have h1:=hm r (zM hr);have dp:=h.wid r (zM hr);rw[<-List.take_append_drop n r,S4 _ _ _ _ (by rw[List.length_take,hX];omega),cW,h.row hr,qM hX hj,Rat.add_zero]at h1;exact h1
 ·rw[List.getD_eq_getElem?_getD,List.getElem?_eq_none (by omega)];rfl
end Go.e8
