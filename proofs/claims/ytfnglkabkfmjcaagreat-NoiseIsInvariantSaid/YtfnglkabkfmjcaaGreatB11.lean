/-
  Linear systems, plain: matrices of steps with all pivots have the trivial kernel alone, others have more; solutions and inverses.
-/
import Derived.Test.YtfnglkabkfmjcaaGreatB10
set_option linter.unusedSimpArgs false
set_option linter.unusedVariables false
set_option linter.unnecessarySimpa false
namespace Go.e9
def BC (f:Nat->Rat):Nat->Rat
 | 0=>0
 | n+1=>BC f n+f n
theorem G6 {f g:Nat->Rat} : ∀ n,(∀ j,j<n->f j=g j)->BC f n=BC g n
 | 0,_=>rfl
 | n+1,h=>by rw[BC,BC,G6 n λ j hj=>h j (by omega),h n (by omega)]
theorem iQ {f:Nat->Rat} : ∀ n,(∀ j,j<n->f j=0)->BC f n=0
 | 0,_=>rfl
 | n+1,h=>by rw[BC,iQ n λ j hj=>h j (by omega),h n (by omega),Rat.add_zero]
theorem Agj {f:Nat->Rat} {n:Nat} : ∀ d,(∀ j,n<=j->f j=0)->BC f (n+d)=BC f n
 | 0,_=>rfl
 | d+1,h=>by rw[<-Nat.add_assoc,BC,Agj d h,h (n+d) (by omega),Rat.add_zero]
theorem tO {f:Nat->Rat} {k:Nat} : ∀ n,k<n->(∀ j,j<n->j≠k->f j=0)->BC f n=f k
 | n+1,hk,h=>by
  by_cases e:k=n
  ·subst e
   rw[BC,iQ k λ j hj=>h j (by omega) (by omega),Rat.zero_add]
  ·rw[BC,tO n (by omega) λ j hj=>h j (by omega),h n (by omega) (Ne.symm e),Rat.add_zero]
theorem Agk (R y:Nat->Rat) (v:Rat) (k:Nat) : ∀ n,BC (λ j=>R j*(if j=k then v else y j)) n=BC (λ j=>R j*y j) n+if k<n then R k*(v-y k) else 0
 | 0=>by simp [BC,Rat.add_zero]
 | n+1=>by
  rw[BC,BC,Agk R y v k n];by_cases e:n=k
  ·subst e
   rw[if_pos rfl,if_neg (Nat.lt_irrefl n),if_pos (Nat.lt_succ_self n)];grind
  ·rw[if_neg e]
   by_cases h:k<n
   ·rw[if_pos h,if_pos (by omega)];grind
   ·rw[if_neg h,if_neg (by omega)];grind
theorem Agi (f:Nat->Rat) : ∀ n,BC f (n+1)=f 0+BC (λ j=>f (j+1)) n
 | 0=>by simp only[BC];grind
 | n+1=>by rw[BC,Agi f n,BC];grind
theorem bT : ∀ (r X:List Rat) (n:Nat),r.length<=n->AZ r X=BC (λ j=>r.getD j 0*X.getD j 0) n
 | [],X,n,_=>by rw[iQ n λ j _=>by simp];rfl
 | x::r,[],n,_=>by rw[eE,iQ n λ j _=>by simp]
 | x::r,y::X,0,h=>by simp at h
 | x::r,y::X,n+1,h=>by
  rw[Agi,AZ,bT r X n (by simpa using h)];simp
def A5 (m:List (List Rat)) (i j:Nat):Rat:=(m.getD i []).getD j 0
theorem OG {m:List (List Rat)} {i:Nat} {r:List Rat} (h:m[i]? = some r) (j:Nat):A5 m i j=r.getD j 0:=by
 rw[A5,show m.getD i []=r by rw[List.getD_eq_getElem?_getD,h];rfl]
def jG (R:Nat->Nat->Rat) (c:Nat):Prop := ∀ i,i<c->R i i≠0 /\ ∀ j,j<i->R i j=0
theorem Agr {R:Nat->Nat->Rat} {c:Nat} (h:jG R c) (f:Nat->Rat) : ∀ d,d<=c -> ∃ y:Nat->Rat,∀ i,c-d<=i->i<c->BC (λ j=>R i j*y j) c=f i
 | 0,_=>⟨λ_=>0,λ i h1 h2=>absurd h2 (by omega)⟩
 | d+1,hd=>by
  obtain ⟨y,hy⟩:=Agr h f d (by omega);obtain ⟨k,hk⟩ : ∃ k,k=c-(d+1):=⟨_,rfl⟩;have hkc:k<c:=by omega
  refine ⟨λ j=>if j=k then y k+(f k-BC (λ j=>R k j*y j) c)/R k k else y j,λ i h1 h2 => ?_⟩;rw[Agk (R i) y _ k c,if_pos hkc];by_cases e:i=k
  ·subst e
   have h0:=(h i hkc).1;have:=Rat.div_mul_cancel h0 (a:=f i-BC (λ j=>R i j*y j) c)
   grind
  ·rw[hy i (by omega) h2,(h i h2).2 k (by omega)];grind
theorem Ags {R:Nat->Nat->Rat} {c:Nat} (h:jG R c) {y:Nat->Rat} (hy : ∀ i,i<c->BC (λ j=>R i j*y j) c=0) : ∀ d,d<=c -> ∀ j,c-d<=j->j<c->y j=0
 | 0,_=>λ j h1 h2=>absurd h2 (by omega)
 | d+1,hd=>λ j h1 h2=>by
  have ih:=Ags h hy d (by omega);by_cases e:c-d<=j
  ·exact ih j e h2
  ·have h3:=hy j h2
   rw[tO c h2 λ q hq hn=>by
    by_cases e2:q<j
    ·rw[(h j h2).2 q e2,Rat.zero_mul]
    ·rw[ih q (by omega) hq,Rat.mul_zero]]at h3
   rcases Rat.mul_eq_zero.1 h3 with h4|h4
   ·exact absurd h4 (h j h2).1
   ·exact h4
theorem EF.low {m:List (List Rat)} {W c:Nat} {P:List Nat} (h:EF m W c P) : ∀ i p:Nat,P[i]? = some p->i<=p
 | 0,p,_=>Nat.zero_le p
 | i+1,p,hp=>by
  have eb:=(zS hp).1;obtain ⟨q,hq⟩ : ∃ q,P[i]? = some q:=⟨_,zE (by omega)⟩;have h1:=h.inc i (i+1) q p (by omega) hq hp;have h2:=h.low i q hq;omega
theorem EF.le {m:List (List Rat)} {W c:Nat} {P:List Nat} (h:EF m W c P):P.length<=c:=by
 cases e:P.length with
 | zero=>exact Nat.zero_le c
 | succ k =>
  obtain ⟨q,hq⟩ : ∃ q,P[k]? = some q:=⟨_,zE (by omega)⟩;have h1:=h.low k q hq;have h2:=h.pb q (zM hq);omega
theorem EF.wide {m:List (List Rat)} {W c n:Nat} {P:List Nat} (h:EF m W c P) (hP:P.length=m.length) (hn:c<=n):EF m W n P :=
 ⟨h.lr,h.pl,h.inc,λ p hp=>Nat.lt_of_lt_of_le (h.pb p hp) hn,h.nz,λ i r hi hr=>by
  have:=(zS hr).1
  omega⟩
theorem Afw {m:List (List Rat)} {W i n:Nat} {r X:List Rat} (hr:m[i]? = some r) (hl:r.length=W) (hn:n<=W) (hX : ∀ j,n<=j->X.getD j 0=0):AZ r X=BC (λ j=>A5 m i j*X.getD j 0) n:=by
 obtain ⟨d,rfl⟩:=Nat.exists_eq_add_of_le hn;rw[bT r X (n+d) (by omega),Agj d λ j hj=>by rw[hX j hj,Rat.mul_zero]];exact G6 n λ j _=>by rw[OG hr]
theorem EF.Us {m:List (List Rat)} {W n c:Nat} {P:List Nat} (h:EF m W n P) (hc : ∀ i,i<c->P[i]? = some i):jG (A5 m) c:=λ i hi=>by
 have h1:=(zS (hc i hi)).1;obtain ⟨r,hr⟩ : ∃ r,m[i]? = some r:=⟨_,zE (Nat.lt_of_lt_of_le h1 h.pl)⟩;have:=h.nz i i r (hc i hi) hr
 rw[OG hr];exact ⟨this.1,λ j hj=>by rw[OG hr];exact this.2 j hj⟩
theorem EF.full {m:List (List Rat)} {W n:Nat} {P:List Nat} (h:EF m W n P) (hP:P.length=n) (hW:n<=W) {X:List Rat} (hk:GM m X) (hX : ∀ j,n<=j->X.getD j 0=0) (j:Nat):X.getD j 0=0:=by
 have hd : ∀ i,i<n->P[i]? = some i:=λ i hi=>by
  obtain ⟨q,hq⟩ : ∃ q,P[i]? = some q:=⟨_,zE (by omega)⟩;rw[hq,h.diag hP i q hq]
 have ht:=h.Us hd;by_cases e:j<n
 ·refine Ags ht (y:=λ j=>X.getD j 0) (λ i hi => ?_) n (Nat.le_refl n) j (by omega) e
  obtain ⟨r,hr⟩ : ∃ r,m[i]? = some r:=⟨_,zE (by have:=h.pl;omega)⟩;rw[<-Afw hr (h.lr r (zM hr)) hW hX];exact hk r (zM hr)
 ·exact hX j (by omega)
theorem EF.gap {m:List (List Rat)} {W n:Nat} {P:List Nat} (h:EF m W n P) : ∀ c:Nat,c<=P.length->(∀ i:Nat,i<c->P[i]? = some i) \/ ∃ k,(∀ i,i<k->P[i]? = some i) /\ ∃ p:Nat,P[k]? = some p/\k<p
 | 0,_=>Or.inl λ i hi=>absurd hi (by omega)
 | c+1,hc=>by
  rcases h.gap c (by omega) with h1|h1
  ·obtain ⟨q,hq⟩ : ∃ q,P[c]? = some q:=⟨_,zE (by omega)⟩
   have h2:=h.low c q hq;by_cases e:q=c
   ·subst e
    exact Or.inl λ i hi=>by
     by_cases e:i=q
     ·subst e;exact hq
     ·exact h1 i (by omega)
   ·exact Or.inr ⟨c,h1,q,hq,by omega⟩
  ·exact Or.inr h1
theorem eJ (f:Nat->Rat) (W j:Nat):((List.range W).map f).getD j 0=if j<W then f j else 0:=by
 rw[List.getD_eq_getElem?_getD,List.getElem?_map];by_cases h:j<W
 ·rw[List.getElem?_range h,if_pos h];rfl
 ·rw[List.getElem?_eq_none (by simp;omega),if_neg h];rfl
theorem EF.less {m:List (List Rat)} {W n:Nat} {P:List Nat} (h:EF m W n P) (hP:P.length<n) (hW:n<=W) : ∃ X:List Rat,X.length=W/\GM m X/\(∀ j,n<=j->X.getD j 0=0) /\ ∃ j,X.getD j 0≠0:=by
 obtain ⟨c,Cv,hc,hz⟩ : ∃ c,c<n/\(∀ i,i<c->P[i]? = some i) /\ ∀ i r,c<=i->m[i]? = some r -> ∀ j,j<=c->r.getD j 0=0:=by
  rcases h.gap P.length (Nat.le_refl _) with h1|⟨k,h1,p,h2,h3⟩
  ·exact ⟨P.length,hP,h1,λ i r hi hr j hj=>h.zr i r hi hr j (by omega)⟩
  ·refine ⟨k,Nat.lt_trans h3 (h.pb p (zM h2)),h1,λ i r hi hr j hj => ?_⟩
   by_cases e:i<P.length
   ·obtain ⟨q,hq⟩ : ∃ q,P[i]? = some q:=⟨_,zE e⟩
    refine (h.nz i q r hq hr).2 j ?_;by_cases e2:i=k
    ·subst e2
     obtain rfl:=Option.some.inj (h2.symm.trans hq);omega
    ·have:=h.inc k i p q (by omega) h2 hq
     omega
   ·exact h.zr i r (by omega) hr j (by have:=h.pb p (zM h2);omega)
 obtain ⟨y,hy⟩:=Agr (h.Us hc) (λ i=>A5 m i c) c (Nat.le_refl c);have hg : ∀ j,((List.range W).map λ j=>if j<c then y j else if j=c then (-1:Rat) else 0).getD j 0=if j<c then y j else if j=c then (-1:Rat) else 0:=λ j=>by
  rw[eJ];by_cases e:j<W
  ·rw[if_pos e]
  ·rw[if_neg e,if_neg (by omega),if_neg (by omega)]
 refine ⟨(List.range W).map λ j=>if j<c then y j else if j=c then (-1:Rat) else 0,by simp,λ r hr => ?_,λ j hj => ?_,c,?_⟩
 ·obtain ⟨i,hi⟩:=List.getElem?_of_mem hr
  rw[Afw hi (h.lr r hr) (show c+1<=W by omega) λ j hj=>by rw[hg,if_neg (by omega),if_neg (by omega)],BC,hg,if_neg (Nat.lt_irrefl c),if_pos rfl];by_cases e:i<c
  ·rw[G6 c (g:=λ j=>A5 m i j*y j) λ j hj=>by rw[hg,if_pos hj],hy i (by omega) e];grind
  ·rw[iQ c λ j hj=>by rw[OG hi,hz i r (by omega) hi j (by omega),Rat.zero_mul],OG hi,hz i r (by omega) hi c (Nat.le_refl c),Rat.zero_mul,Rat.add_zero]
 ·rw[hg,if_neg (by omega),if_neg (by omega)]
 ·rw[hg,if_neg (Nat.lt_irrefl c),if_pos rfl]
  decide
def lO (m a:List (List Rat)):Prop:=m.length=a.length /\ ∀ (i:Nat) (r:List Rat),a[i]? = some r -> ∃ s:Rat,s≠0/\m[i]? = some (r.map (· * s))
theorem cT (x:Rat) : ∀ a b:List Rat,AZ (a.map (· * x)) b=AZ a b*x
 | [],b=>by simp [AZ]
 | a::l,[]=>by rw[eE,eE,Rat.zero_mul]
 | a::l,b::k=>by
  simp only[List.map_cons,AZ,cT x l k];grind
theorem lO.Ab {m a:List (List Rat)} (h:lO m a) (X:List Rat):GM m X↔GM a X:=by
 constructor
 ·intro hk r hr
  obtain ⟨i,hi⟩:=List.getElem?_of_mem hr;obtain ⟨s,hs,hm⟩:=h.2 i r hi;have:=hk _ (zM hm)
  rw[cT]at this;rcases Rat.mul_eq_zero.1 this with h|h
  ·exact h
  ·exact absurd h hs
 ·intro hk r hr
  obtain ⟨i,hi⟩:=List.getElem?_of_mem hr;obtain ⟨q,hq⟩ : ∃ q,a[i]? = some q:=⟨_,zE (by have:=(zS hi).1;have:=h.1;omega)⟩;obtain ⟨s,hs,hm⟩:=h.2 i q hq;obtain rfl:=Option.some.inj (hi.symm.trans hm);rw[cT,hk q (zM hq),Rat.zero_mul]
def DP (a b:List (List Rat)):List (List Rat):=List.zipWith (· ++ ·) a b
def NS (n:Nat) (a:List (List Rat)):Prop := ∀ X:List Rat,X.length=n->GM a X -> ∀ j,X.getD j 0=0
theorem qT : ∀ (u y v z:List Rat),u.length=y.length->AZ (u++v) (y++z)=AZ u y+AZ v z
 | [],[],v,z,_=>by simp [AZ,Rat.zero_add]
 | x::u,w::y,v,z,h=>by
  simp only[List.cons_append,AZ,qT u y v z (by simpa using h)];grind
theorem iA {a b:List (List Rat)} {i:Nat} {r s:List Rat} (hr:a[i]? = some r) (hs:b[i]? = some s):(DP a b)[i]? = some (r++s):=by
 simp [DP,List.getElem?_zipWith,hr,hs]
theorem yT {n:Nat} {a b:List (List Rat)} (hl:a.length=b.length) (ha : ∀ r∈a,r.length=n) (y z:List Rat) (hy:y.length=n):GM (DP a b) (y++z) ↔ ∀ (i:Nat) (r s:List Rat),a[i]? = some r->b[i]? = some s->AZ r y+AZ s z=0:=by
 constructor
 ·intro h i r s hr hs
  rw[<-qT r y s z (by rw[ha r (zM hr),hy])];exact h _ (zM (iA hr hs))
 ·intro h q hq
  obtain ⟨i,hi⟩:=List.getElem?_of_mem hq;have eb:=(zS hi).1;simp only[DP,List.length_zipWith]at eb;obtain ⟨r,hr⟩ : ∃ r,a[i]? = some r:=⟨_,zE (by omega)⟩;obtain ⟨s,hs⟩ : ∃ s,b[i]? = some s:=⟨_,zE (by omega)⟩;obtain rfl:=Option.some.inj ((iA hr hs).symm.trans hi);rw[qT r y s z (by rw[ha r (zM hr),hy])];exact h i r s hr hs
theorem AkZ {X:List Rat} (h : ∀ j,X.getD j 0=0) (r:List Rat):AZ r X=0:=by
 rw[bT r X r.length (Nat.le_refl _)];exact iQ _ λ j _=>by rw[h,Rat.mul_zero]
theorem Apn {m a b:List (List Rat)} {w n:Nat} {P:List Nat} (h:EF m (n+w) n P) (hk : ∀ X,GM m X↔GM (DP a b) X) (hl:a.length=b.length) (ha : ∀ r∈a,r.length=n):P.length=n↔NS n a:=by
 constructor
 ·intro hP X hX hka j
  have h1:GM m (X++List.replicate w 0):=(hk _).2 ((yT hl ha X _ hX).2 λ i r s hr hs=>by
   rw[hka r (zM hr),Yd,Rat.add_zero])
  by_cases e:j<n
  ·have h2:=h.full hP (by omega) h1 (λ j hj=>by
    rw[List.getD_eq_getElem?_getD,List.getElem?_append_right (by omega),List.getElem?_replicate];split<;>rfl) j
   rw[List.getD_eq_getElem?_getD,List.getElem?_append_left (by omega)]at h2;rw[List.getD_eq_getElem?_getD];exact h2
  ·rw[List.getD_eq_getElem?_getD,List.getElem?_eq_none (by omega)];rfl
 ·intro fr
  have h1:=h.le;rcases Nat.lt_or_ge P.length n with hP|hP
  ·exfalso
   obtain ⟨X,hX,hX1,Lh,j,hj⟩:=h.less hP (by omega);have h2:=(hk _).1 hX1;rw[<-List.take_append_drop n X]at h2;have fm:(X.take n).length=n:=by simp;omega
   have h3:=(yT hl ha _ _ fm).1 h2;have hz : ∀ q,(X.drop n).getD q 0=0:=λ q=>by
    have:=Lh (n+q) (by omega)
    rw[List.getD_eq_getElem?_getD]at this;rw[List.getD_eq_getElem?_getD,List.getElem?_drop];exact this
   have h4:=fr (X.take n) fm (λ r hr=>by
    obtain ⟨i,hi⟩:=List.getElem?_of_mem hr;obtain ⟨s,hs⟩ : ∃ s,b[i]? = some s:=⟨_,zE (by have:=(zS hi).1;omega)⟩;have:=h3 i r s hi hs
    rw[AkZ hz,Rat.add_zero]at this;exact this) j
   by_cases e:j<n
   ·rw[List.getD_eq_getElem?_getD,List.getElem?_take_of_lt e,<-List.getD_eq_getElem?_getD]at h4
    exact hj h4
   ·exact hj (Lh j (by omega))
  ·omega
def rR (w c:Nat):List Rat:=(List.range w).map λ q=>if q=c then -1 else 0
theorem Yf {r:List Rat} {w c:Nat} (hr:r.length=w) (hc:c<w):AZ r (rR w c) = - r.getD c 0:=by
 rw[bT r _ w (by omega),tO w hc λ j hj hn=>by rw[rR,eJ,if_pos hj,if_neg hn,Rat.mul_zero],rR,eJ,if_pos hc,if_pos rfl];grind
theorem Aje {m a b:List (List Rat)} {w n c:Nat} {y:List Rat} (hk : ∀ X,GM m X↔GM (DP a b) X) (hl:a.length=b.length) (ha : ∀ r∈a,r.length=n) (hb : ∀ r∈b,r.length=w) (hc:c<w) (hy:y.length=n) (hm : ∀ r∈m,r.length=n+w) (hs : ∀ r∈m,AZ (r.take n) y=r.getD (n+c) 0) {i:Nat} {r s:List Rat} (hr:a[i]? = some r) (hi:b[i]? = some s):AZ r y=s.getD c 0:=by
 have h1:GM m (y++rR w c):=λ q hq=>by
  have Bv:=hm q hq;have e:q=q.take n++q.drop n:=(List.take_append_drop n q).symm;rw[e,qT _ _ _ _ (by rw[List.length_take,hy];omega),hs q hq,Yf (by rw[List.length_drop];omega) hc];have:(q.drop n).getD c 0=q.getD (n+c) 0:=by rw[List.getD_eq_getElem?_getD,List.getElem?_drop,<-List.getD_eq_getElem?_getD]
  rw[this];grind
 have h2:=(yT hl ha y _ hy).1 ((hk _).1 h1) i r s hr hi;rw[Yf (hb s (zM hi)) hc]at h2;grind
def eU (y:Nat->List Rat) (n:Nat):List (List Rat):=(List.range n).map λ i:Nat=>(List.range n).map λ c=>(y c).getD i 0
theorem AoM {y:Nat->List Rat} {n c:Nat} (hy:(y c).length=n) (hc:c<n):CO (eU y n) c=y c:=by
 refine List.ext_getElem? λ i => ?_
 simp only[CO,eU,List.map_map,List.getElem?_map];by_cases h:i<n
 ·rw[List.getElem?_range h,Option.map_some,Function.comp_apply,eJ,if_pos hc,List.getD_eq_getElem?_getD,zE (by omega)];rfl
 ·rw[List.getElem?_eq_none (by simp;omega),List.getElem?_eq_none (by omega)];rfl
theorem Nl (n i j:Nat):(EZ n i).getD j 0=if j<n then (if j=i then 1 else 0) else 0:=by
 rw[EZ,eJ];by_cases h:j<n
 ·rw[if_pos h,if_pos h]
  by_cases e:j=i
  ·rw[if_pos e,if_pos (by omega)]
  ·rw[if_neg e,if_neg (by omega)]
 ·rw[if_neg h,if_neg h]
theorem AnP {a:List (List Rat)} {n:Nat} {y:Nat->List Rat} (ha:a.length=n) (hy : ∀ c,c<n->(y c).length=n) (h : ∀ (c i:Nat) (r:List Rat),c<n->a[i]? = some r->AZ r (y c)=if c=i then 1 else 0):C1 a (eU y n) n=FL n:=by
 refine List.ext_getElem? λ i => ?_
 simp only[C1,FL,List.getElem?_map];by_cases hi:i<n
 ·obtain ⟨r,hr⟩ : ∃ r,a[i]? = some r:=⟨_,zE (by omega)⟩
  rw[hr,List.getElem?_range hi,Option.map_some,Option.map_some];congr 1;refine List.map_congr_left λ c hc => ?_
  have dk:=List.mem_range.1 hc;rw[AoM (hy c dk) dk,h c i r dk hr];by_cases e:c=i
  ·rw[if_pos e,if_pos (by omega)]
  ·rw[if_neg e,if_neg (by omega)]
 ·rw[List.getElem?_eq_none (by omega),List.getElem?_eq_none (by simp;omega)];rfl
theorem Age {a:List (List Rat)} {n:Nat} (ha : ∀ r∈a,r.length=n) {X Y:List Rat} (hX:X.length=n) (hY:Y.length=n) (h:BX a X=BX a Y) (fr:NS n a):X=Y:=by
 have h1:=fr ((List.range n).map λ j=>X.getD j 0-Y.getD j 0) (by simp) (λ r hr=>by
  obtain ⟨i,hi⟩:=List.getElem?_of_mem hr;have e:AZ r X=AZ r Y:=by
   have:=congrArg (·[i]?) h
   simp only[BX,List.getElem?_map,hi,Option.map_some,Option.some.injEq]at this;exact this
  have hs : ∀ k,BC (λ j=>r.getD j 0*((List.range n).map λ j=>X.getD j 0-Y.getD j 0).getD j 0) k=BC (λ j=>r.getD j 0*X.getD j 0) k-BC (λ j=>r.getD j 0*Y.getD j 0) k:=by
   intro k;induction k with
   | zero=>simp only[BC];grind
   | succ k ih =>
    rw[BC,BC,BC,ih,eJ];by_cases e:k<n
    ·rw[if_pos e];grind
    ·rw[if_neg e,List.getD_eq_getElem?_getD,List.getD_eq_getElem?_getD,List.getD_eq_getElem?_getD,List.getElem?_eq_none (show X.length<=k by omega),List.getElem?_eq_none (show Y.length<=k by omega)]
     simp only[Option.getD_none];grind
  rw[bT r _ r.length (Nat.le_refl _),hs,<-bT r X _ (Nat.le_refl _),<-bT r Y _ (Nat.le_refl _),e];grind)
 refine List.ext_getElem? λ j => ?_
 by_cases e:j<n
 ·have:=h1 j
  rw[eJ,if_pos e]at this;have h2:X.getD j 0=Y.getD j 0:=by grind
  rw[List.getD_eq_getElem?_getD,List.getD_eq_getElem?_getD,zE (by omega),zE (by omega)]at h2;rw[zE (by omega),zE (by omega)];exact congrArg some h2
 ·rw[List.getElem?_eq_none (by omega),List.getElem?_eq_none (by omega)]
theorem AeL {a:List (List Rat)} {n i:Nat} (ha : ∀ r∈a,r.length=n) (hi:i<n):BX a (EZ n i)=CO a i:=by
 refine List.map_congr_left λ r hr => ?_
 rw[bT r _ n (by rw[ha r hr];exact Nat.le_refl n),tO n hi λ j hj hn=>by rw[Nl,if_pos hj,if_neg hn,Rat.mul_zero],Nl,if_pos hi,if_pos rfl,Rat.mul_one]
theorem Aon {a b:List (List Rat)} {n:Nat} (ha:Sq n a) (hb:Sq n b) (h : ∀ c,c<n->CO a c=CO b c):a=b:=by
 refine List.ext_getElem? λ i => ?_
 by_cases hi:i<n
 ·obtain ⟨r,hr⟩ : ∃ r,a[i]? = some r:=⟨_,zE (by rw[ha.l];exact hi)⟩
  obtain ⟨s,hs⟩ : ∃ s,b[i]? = some s:=⟨_,zE (by rw[hb.l];exact hi)⟩;rw[hr,hs];congr 1;refine List.ext_getElem? λ j => ?_
  have h1:=ha.at hr;have h2:=hb.at hs;by_cases hj:j<n
  ·have:=congrArg (·[i]?) (h j hj)
   simp only[CO,List.getElem?_map,hr,hs,Option.map_some,Option.some.injEq]at this;rw[List.getD_eq_getElem?_getD,List.getD_eq_getElem?_getD,zE (by omega),zE (by omega)]at this;rw[zE (by omega),zE (by omega)];exact congrArg some this
  ·rw[List.getElem?_eq_none (by omega),List.getElem?_eq_none (by omega)]
 ·rw[List.getElem?_eq_none (by rw[ha.l];omega),List.getElem?_eq_none (by rw[hb.l];omega)]
theorem AnI {a v:List (List Rat)} {n:Nat} (ha:Sq n a) (hv:Sq n v) (fr:NS n a) (h:C1 a v n=FL n):C1 v a n=FL n:=by
 refine Aon (Sq.mul hv.l a) (Sq.id n) λ c hc => ?_
 have hm:=Sq.mul hv.l a (n:=n);have hu:(EZ n c).length=n:=by simp [EZ]
 rw[<-AeL hm.r hc,<-AeL (Sq.id n).r hc,nI hu];refine Age ha.r (by rw[kG,hm.l]) hu ?_ fr;rw[kH v a _ ha.r,<-kH a v _ hv.r,h,nI (by rw[kG,ha.l])]
end Go.e9
namespace Go.e9
theorem Bt.Kl {k:Nat} {y:Rat} (h:Bt k y):Bt k y⁻¹:=by
 rw[Rat.inv_def];rcases Int.natAbs_eq y.num with e|e
 ·rw[e,Rat.divInt_ofNat]
  exact Bt.mk (by simpa using h.2) h.1
 ·rw[e,Rat.divInt_neg',Rat.divInt_ofNat]
  exact Bt.mk (by simpa using h.2) h.1
theorem Bt.nr {k l:Nat} {x y:Rat} (hx:Bt k x) (hy:Bt l y):Bt (k+l) (x/y):=by
 rw[Rat.div_def];exact hx.mul hy.Kl
theorem Bt.Ac {k:Nat} {x:Rat} (h:Bt k x):Bt k (-x):=⟨by rw[Rat.neg_num,Int.natAbs_neg];exact h.1,by rw[Rat.neg_den];exact h.2⟩
theorem Bt.rn {k l:Nat} {x y:Rat} (hx:Bt k x) (hy:Bt l y):Bt (k+l+1) (x-y):=by
 rw[Rat.sub_eq_add_neg];exact hx.add hy.Ac
theorem Bt.Hl {k:Nat} {x p y f l:Rat} (hx:Bt k x) (hp:Bt k p) (hy:Bt k y) (hf:Bt k f) (hl:Bt k l):Bt (5*k+1) ((x*p-y*f)/l) :=
 (((hx.mul hp).rn (hy.mul hf)).nr hl).le (by omega)
theorem vM {p f l:Rat} : ∀ {r t:List Rat} {z:Rat},z∈comb p f l r t -> ∃ x∈r,∃ y∈t,z=(x*p-y*f)/l
 | [],_,z,h=>by simp [comb]at h
 | _::_,[],z,h=>by simp [comb]at h
 | x::r,y::t,z,h=>by
  simp only[comb,List.zipWith_cons_cons,List.mem_cons]at h;rcases h with h|h
  ·exact ⟨x,List.mem_cons_self,y,List.mem_cons_self,h⟩
  ·obtain ⟨a,ha,b,hb,e⟩:=vM (r:=r) (t:=t) h
   exact ⟨a,List.mem_cons_of_mem _ ha,b,List.mem_cons_of_mem _ hb,e⟩
theorem Bs.comb {k:Nat} {r t:List Rat} {p f l:Rat} (hr:Bs k r) (ht:Bs k t) (hp:Bt k p) (hf:Bt k f) (hl:Bt k l):Bs (5*k+1) (comb p f l r t):=λ z hz=>by
 obtain ⟨x,hx,y,hy,rfl⟩:=vM hz;exact Bt.Hl (hr x hx) hp (ht y hy) hf hl
theorem vK {p f l:Rat} : ∀ {r t:List Rat},r.length=t.length -> ∀ j,(comb p f l r t).getD j 0=(r.getD j 0*p-t.getD j 0*f)/l
 | [],[],_,j=>by simp [comb,Rat.div_def,Rat.zero_mul,Rat.sub_eq_add_neg,Rat.neg_zero,Rat.add_zero]
 | x::r,y::t,_,0=>by simp [comb]
 | x::r,y::t,h,j+1=>by
  have:=vK (p:=p) (f:=f) (l:=l) (r:=r) (t:=t) (by simpa using h) j
  simp only[comb]at this;simpa [comb] using this
def SI (s x:Rat):Rat:=s*(((s*x).den:Nat):Rat)
def BF (r:List Rat):Rat:=r.foldl SI 1
theorem sZ (r:List Rat) (x:Rat):BF (r++[x])=SI (BF r) x:=by rw[BF,List.foldl_append];rfl
theorem ApL {s x:Rat} (h:s≠0):SI s x≠0:=by
 intro e;rcases Rat.mul_eq_zero.1 e with e|e
 ·exact h e
 ·have:=(s*x).den_pos
  have:((s*x).den:Rat)=((0:Nat):Rat):=e
  have:=Rat.natCast_inj.1 this
  omega
theorem Oi (r:List Rat):BF r≠0:=by
 have : ∀ (r:List Rat) (s:Rat),s≠0->r.foldl SI s≠0:=by
  intro r;induction r with
  | nil=>intro s h;exact h
  | cons x r ih=>intro s h;exact ih _ (ApL h)
 exact this r 1 (by decide)
theorem ApI {a k:Nat} {s x:Rat} (hs:Bt a s) (hx:Bt k x):Bt (2*a+k) (SI s x):=by
 have h1:=(hs.mul hx).2;have h2:Bt (a+k) (((s*x).den:Nat):Rat):=by
  have:=Bt.ofInt (k:=a+k) (z:=(((s*x).den:Nat):Int)) (by simpa using h1)
  rwa [Rat.intCast_natCast]at this
 exact (hs.mul h2).le (by omega)
theorem sY {k:Nat} (hk:1<=k) : ∀ {r:List Rat},Bs k r->Bt (3^r.length*k-k) (BF r):=by
 have : ∀ (r:List Rat) (s:Rat) (i:Nat),Bs k r->Bt (3^i*k-k) s->Bt (3^(i+r.length)*k-k) (r.foldl SI s):=by
  intro r;induction r with
  | nil=>intro s i _ h;exact h
  | cons x r ih =>
   intro s i hr h;have h1:=ApI h (hr x List.mem_cons_self);have h2:=ih (SI s x) (i+1) (λ y hy=>hr y (List.mem_cons_of_mem _ hy)) (h1.le (by
    have:1<=3^i:=Nat.one_le_pow _ _ (by omega)
    have e:3^(i+1)*k=3*(3^i*k):=by rw[Nat.pow_succ];rw[Nat.mul_comm (3^i) 3,Nat.mul_assoc]
    have h3:k<=3^i*k:=Nat.le_mul_of_pos_left k (by omega);rw[e];omega))
   rw[List.length_cons,show i+(r.length+1)=i+1+r.length by omega];exact h2
 intro r hr;have:=this r 1 0 hr (Bt.one _)
 rwa [Nat.zero_add]at this
def whole (m:List (List Rat)):List (List Rat):=m.map λ r=>r.map (· * BF r)
theorem AqP (m:List (List Rat)):lO (whole m) m:=⟨by simp [whole],λ i r hr=>⟨BF r,Oi r,by simp [whole,hr]⟩⟩
theorem Mj {m:List (List Rat)} {W:Nat} (h : ∀ r∈m,r.length=W) : ∀ r∈whole m,r.length=W:=λ r hr=>by
 obtain ⟨q,hq,rfl⟩:=List.mem_map.1 hr;simpa using h q hq
theorem Mk {m:List (List Rat)} {W k:Nat} (hk:1<=k) (h : ∀ r∈m,r.length=W) (hb:Ms k m):Ms (3^W*k) (whole m):=λ r hr=>by
 obtain ⟨q,hq,rfl⟩:=List.mem_map.1 hr;have h1:=sY hk (hb q hq);rw[h q hq]at h1;intro x hx;obtain ⟨y,hy,rfl⟩:=List.mem_map.1 hx;have h2:k<=3^W*k:=Nat.le_mul_of_pos_left k (Nat.pow_pos (by omega));exact ((hb q hq y hy).mul h1).le (by omega)
theorem Ml {m:List (List Rat)} {W k:Nat} (hk:1<=k) (h : ∀ r∈m,r.length=W) (hb:Ms k m) : ∀ r∈m,∀ j,Bt (3^W*k) (BF (r.take j)):=λ r hr j=>(sY hk ((hb r hr).take j)).le (by
 have:3^(r.take j).length<=3^W:=Nat.pow_le_pow_right (by omega) (by rw[List.length_take,h r hr];omega)
 have:=Nat.mul_le_mul_right k this
 omega)
theorem Nq (k W:Nat):k<=3^W*k:=Nat.le_mul_of_pos_left k (Nat.pow_pos (by omega))
def J9:List (List Rat)->List Nat->Rat
 | r::m,p::P=>r.getD p 0*J9 m P
 | _,_=>1
theorem nQ : ∀ m,J9 m []=1
 | []=>rfl
 | _::_=>rfl
theorem sJ : ∀ (m:List (List Rat)) (P:List Nat) (i:Nat) (x:List Rat),P.length<=i->J9 (m.set i x) P=J9 m P
 | [],_,_,_,_=>rfl
 | _::_,[],_,_,_=>by rw[nQ,nQ]
 | r::m,p::P,0,x,h=>by simp at h
 | r::m,p::P,i+1,x,h=>by
  rw[List.set_cons_succ,J9,J9,sJ m P i x (by simpa using h)]
theorem Ae9 (c:Nat) (t:List Rat) : ∀ (m:List (List Rat)) (P:List Nat),m[P.length]? = some t->J9 m (P++[c])=J9 m P*t.getD c 0
 | [],_,h=>by simp at h
 | r::m,[],h=>by
  obtain rfl:r=t:=by simpa using h
  rw[List.nil_append,J9,nQ,nQ,Rat.mul_one,Rat.one_mul]
 | r::m,p::P,h=>by
  rw[List.cons_append,J9,J9,Ae9 c t m P (by simpa using h),Rat.mul_assoc]
structure Wv (n W:Nat) (u:Rat) (D:List (List Rat)->Rat):Prop where
 sw : ∀ (m:List (List Rat)) (i k:Nat) (a b:List Rat),m.length=n->(∀ r∈m,r.length=W)->m[i]? = some a->m[k]? = some b->i≠k->D ((m.set i b).set k a) = -D m
 ad : ∀ (m:List (List Rat)) (i k:Nat) (r t:List Rat) (p f l:Rat),m.length=n->(∀ r∈m,r.length=W)->m[i]? = some r->m[k]? = some t->i≠k->l≠0->D (m.set i (comb p f l r t))=D m*(p/l)
 sc : ∀ (m:List (List Rat)) (i:Nat) (r:List Rat) (s:Rat),m.length=n->(∀ r∈m,r.length=W)->m[i]? = some r->D (m.set i (r.map (· * s)))=D m*s
 tr : ∀ m:List (List Rat),m.length=n->(∀ r∈m,r.length=W)->jG (A5 m) n->D m=J9 m (List.range n)*u
def oB (b:Bool):Rat:=bif b then -1 else 1
theorem ApO (b:Bool):oB (!b) = -oB b:=by cases b<;>decide
theorem AeZ : ∀ n:Nat,(1:Rat)^n=1
 | 0=>Rat.pow_zero 1
 | n+1=>by rw[Rat.pow_succ,AeZ n,Rat.mul_one]
theorem Afe {l:Rat} (h:l≠0) : ∀ n:Nat,l^n≠0
 | 0=>by rw[Rat.pow_zero];decide
 | n+1=>by
  rw[Rat.pow_succ];intro e;rcases Rat.mul_eq_zero.1 e with e|e
  ·exact Afe h n e
  ·exact h e
theorem AoC {a b c:Rat} (h:c≠0) (e:a*c=b*c):a=b:=by
 have h1:=Rat.mul_inv_cancel c h;have:a*c*c⁻¹=b*c*c⁻¹:=by rw[e]
 rwa [Rat.mul_assoc,Rat.mul_assoc,h1,Rat.mul_one,Rat.mul_one]at this
structure HB (m0:List (List Rat)) (K W gk:Nat) (m:List (List Rat)) (P:List Nat) (c:Nat) (odd:Bool) (l:Rat):Prop where
 gp:EF m W c P
 len:m.length=m0.length
 cc:c<=gk
 l0:l≠0
 Ab : ∀ X,GM m X↔GM m0 X
 ms:Ms (6^P.length*K) m
 bl:Bt (6^P.length*K) l
 dt : ∀ (u:Rat) (D:List (List Rat)->Rat),Wv m0.length W u D->D m*l=oB odd*D m0*J9 m P*l^(m0.length-P.length)
theorem HB.start {m0:List (List Rat)} {K W gk:Nat} (h : ∀ r∈m0,r.length=W) (hb:Ms K m0):HB m0 K W gk m0 [] 0 false 1 :=
 ⟨EF.start h,rfl,Nat.zero_le _,by decide,λ_=>Iff.rfl,by simpa using hb,Bt.one _,λ u D _=>by rw[nQ,AeZ,Rat.mul_one,Rat.mul_one,Rat.mul_one];exact (Rat.one_mul _).symm⟩
section
variable {m0 m:List (List Rat)} {K W gk c:Nat} {P:List Nat} {odd:Bool} {l:Rat}
theorem HB.skip (h:HB m0 K W gk m P c odd l) (hc:c<gk) (hz : ∀ (i:Nat) (r:List Rat),P.length<=i->m[i]? = some r->r.getD c 0=0):HB m0 K W gk m P (c+1) odd l :=
 ⟨h.gp.skip hz,h.len,hc,h.l0,h.Ab,h.ms,h.bl,h.dt⟩
theorem HB.swap {i k:Nat} {a b:List Rat} (h:HB m0 K W gk m P c odd l) (hi:m[i]? = some a) (hk:m[k]? = some b) (h1:P.length<=i) (h2:P.length<=k) (hn:i≠k):HB m0 K W gk ((m.set i b).set k a) P c (!odd) l :=
 ⟨h.gp.swap hi hk h1 h2,by simpa using h.len,h.cc,h.l0,λ X=>(An3 hi hk X).trans (h.Ab X),λ r hr=>by
  rcases eN hr with rfl|⟨j,_,hj⟩
  ·exact h.ms.at hi
  ·rcases eN (zM hj) with rfl|⟨q,_,hq⟩
   ·exact h.ms.at hk
   ·exact h.ms.at hq,h.bl,λ u D hD=>by
  rw[hD.sw m i k a b h.len h.gp.lr hi hk hn,ApO,sJ _ _ _ _ h2,sJ _ _ _ _ h1,Rat.neg_mul,h.dt u D hD,Rat.neg_mul,Rat.neg_mul,Rat.neg_mul]⟩
structure cO (m0:List (List Rat)) (K W gk:Nat) (P:List Nat) (c:Nat) (odd:Bool) (l:Rat) (t:List Rat) (m:List (List Rat)) (i:Nat):Prop where
 gp:EF m W c P
 len:m.length=m0.length
 cc:c<gk
 l0:l≠0
 Ab : ∀ X,GM m X↔GM m0 X
 ht:m[P.length]? = some t
 nt:t.getD c 0≠0
 lo : ∀ q r,q<i->m[q]? = some r->Bs (5*(6^P.length*K)+1) r
 hi : ∀ q r,i<=q->m[q]? = some r->Bs (6^P.length*K) r
 bt:Bs (6^P.length*K) t
 bl:Bt (6^P.length*K) l
 z : ∀ q r,P.length<q->q<i->m[q]? = some r->r.getD c 0=0
 dt : ∀ (u:Rat) (D:List (List Rat)->Rat),Wv m0.length W u D->D m*l*l^(i-P.length-1)=oB odd*D m0*J9 m P*l^(m0.length-P.length)*t.getD c 0^(i-P.length-1)
theorem HB.swp {t:List Rat} (h:HB m0 K W gk m P c odd l) (hc:c<gk) (ht:m[P.length]? = some t) (hn:t.getD c 0≠0):cO m0 K W gk P c odd l t m (P.length+1) :=
 ⟨h.gp,h.len,hc,h.l0,h.Ab,ht,hn,λ q r _ hr=>(h.ms.at hr).le (by omega),λ q r _ hr=>h.ms.at hr,h.ms.at ht,h.bl,λ q r h1 h2 _=>absurd h1 (by omega),λ u D hD=>by
  rw[show P.length+1-P.length-1=0 by omega,Rat.pow_zero,Rat.pow_zero,Rat.mul_one,Rat.mul_one];exact h.dt u D hD⟩
theorem cO.step {t r:List Rat} {i:Nat} (h:cO m0 K W gk P c odd l t m i) (hi:P.length<i) (hr:m[i]? = some r):cO m0 K W gk P c odd l t (m.set i (comb (t.getD c 0) (r.getD c 0) l r t)) (i+1):=by
 have eb:=(zS hr).1;have hl:r.length=t.length:=by rw[h.gp.lr r (zM hr),h.gp.lr t (zM h.ht)]
 have hg : ∀ j,(comb (t.getD c 0) (r.getD c 0) l r t).getD j 0=(r.getD j 0*t.getD c 0-t.getD j 0*r.getD c 0)/l:=vK hl;have ji : ∀ (q:Nat) (x:List Rat),(m.set i (comb (t.getD c 0) (r.getD c 0) l r t))[q]? = some x->(q=i/\x=comb (t.getD c 0) (r.getD c 0) l r t)\/(q≠i/\m[q]? = some x):=λ q x hx=>by
  rw[List.getElem?_set]at hx;by_cases e:i=q
  ·rw[if_pos e,if_pos eb]at hx
   exact Or.inl ⟨e.symm,(Option.some.inj hx).symm⟩
  ·rw[if_neg e]at hx
   exact Or.inr ⟨Ne.symm e,hx⟩
 have hbr:=h.hi i r (Nat.le_refl i) hr;have htc:Bt (6^P.length*K) (t.getD c 0):=by
  have:Ms (6^P.length*K) [t]:=λ x hx=>by obtain rfl:=List.mem_singleton.1 hx;exact h.bt
  exact this.getD 0 c
 have Aq:Bt (6^P.length*K) (r.getD c 0):=by
  have:Ms (6^P.length*K) [r]:=λ x hx=>by obtain rfl:=List.mem_singleton.1 hx;exact hbr
  exact this.getD 0 c
 have ja : ∀ j,j<=c->(comb (t.getD c 0) (r.getD c 0) l r t).getD j 0=0:=λ j hj=>by
  rw[hg];by_cases e:j=c
  ·subst e;rw[Rat.div_def];grind
  ·rw[h.gp.zr i r (by omega) hr j (by omega),h.gp.zr P.length t (Nat.le_refl _) h.ht j (by omega),Rat.div_def];grind
 refine ⟨⟨λ x hx => ?_,by simpa using h.gp.pl,h.gp.inc,h.gp.pb,λ q p x hp hx => ?_,λ q x hq hx j hj => ?_⟩,by simpa using h.len,h.cc,h.l0,λ X=>(An4 hr h.ht (by omega) hl h.nt h.l0 X).trans (h.Ab X),?_,h.nt,λ q x hq hx => ?_,λ q x hq hx => ?_,h.bt,h.bl,λ q x h1 h2 hx => ?_,λ u D hD => ?_⟩
 ·rcases eN hx with rfl|⟨j,_,hj⟩
  ·rw[vL hl];exact h.gp.lr r (zM hr)
  ·exact h.gp.lr x (zM hj)
 ·have Jo:=(zS hp).1
  rcases ji q x hx with ⟨rfl,_⟩|⟨_,hx⟩
  ·omega
  ·exact h.gp.nz q p x hp hx
 ·rcases ji q x hx with ⟨rfl,rfl⟩|⟨_,hx⟩
  ·exact ja j (by omega)
  ·exact h.gp.zr q x hq hx j hj
 ·rw[List.getElem?_set,if_neg (by omega)];exact h.ht
 ·rcases ji q x hx with ⟨rfl,rfl⟩|⟨u7,hx⟩
  ·exact hbr.comb h.bt htc Aq h.bl
  ·exact h.lo q x (by omega) hx
 ·rcases ji q x hx with ⟨rfl,rfl⟩|⟨u7,hx⟩
  ·omega
  ·exact h.hi q x (by omega) hx
 ·rcases ji q x hx with ⟨rfl,rfl⟩|⟨u7,hx⟩
  ·exact ja c (Nat.le_refl c)
  ·exact h.z q x h1 (by omega) hx
 ·have hd:=h.dt u D hD
  have hdl:=Rat.div_mul_cancel h.l0 (a:=t.getD c 0);rw[hD.ad m i P.length r t _ _ l h.len h.gp.lr hr h.ht (by omega) h.l0,sJ _ _ _ _ (by omega),show i+1-P.length-1=(i-P.length-1)+1 by omega,Rat.pow_succ,Rat.pow_succ];rw[show D m*(t.getD c 0/l)*l*(l^(i-P.length-1)*l)=D m*l*l^(i-P.length-1)*(t.getD c 0/l*l) by grind,hd,hdl,Rat.mul_assoc]
theorem Afc (hK:1<=K) (p:Nat):5*(6^p*K)+1<=6^(p+1)*K:=by
 have h1:1<=6^p*K:=Nat.mul_pos (Nat.pow_pos (by omega)) hK;have e:6^(p+1)*K=6*(6^p*K):=by rw[Nat.pow_succ,Nat.mul_comm (6^p) 6,Nat.mul_assoc]
 omega
theorem Nu {p n B:Nat} (h:6^n*K<=B) (hp:p<=n):6^p*K<=B :=
 Nat.le_trans (Nat.mul_le_mul_right K (Nat.pow_le_pow_right (by omega) hp)) h
theorem cO.done {t:List Rat} {i:Nat} (hK:1<=K) (h:cO m0 K W gk P c odd l t m i) (hi:i=m.length):HB m0 K W gk m (P++[c]) (c+1) odd (t.getD c 0):=by
 have e:(P++[c]).length=P.length+1:=by simp
 have h6:=Afc hK P.length;refine ⟨h.gp.Kn h.ht h.nt λ q r hq hr=>h.z q r hq (hi ▸ (zS hr).1) hr,h.len,h.cc,h.nt,h.Ab,?_,?_,λ u D hD => ?_⟩
 ·rw[e]
  intro r hr;obtain ⟨q,hq⟩:=List.getElem?_of_mem hr;exact (h.lo q r (hi ▸ (zS hq).1) hq).le h6
 ·rw[e]
  have:Ms (6^P.length*K) [t]:=λ x hx=>by obtain rfl:=List.mem_singleton.1 hx;exact h.bt
  exact (this.getD 0 c).le (by omega)
 ·have hd:=h.dt u D hD
  have Bu:=(zS h.ht).1;have hlen:=h.len;rw[Ae9 c t m P h.ht,e];rw[hi,hlen,show m0.length-P.length=(m0.length-P.length-1)+1 by omega,Rat.pow_succ,Nat.add_sub_cancel]at hd;rw[show m0.length-(P.length+1)=m0.length-P.length-1 by omega];have hp:=Afe h.l0 (m0.length-P.length-1);generalize l^(m0.length-P.length-1)=x at *;generalize t.getD c 0=p at *;generalize p^(m0.length-P.length-1)=y at *;have h0:=h.l0;have h1:D m=oB odd*D m0*J9 m P*y:=AoC (c:=l*x) (λ e=>by
   rcases Rat.mul_eq_zero.1 e with e|e
   ·exact h0 e
   ·exact hp e) (by grind)
  rw[h1];grind
end
def E1 (c:Nat) (l:Rat):List (List Rat)->Nat->List Rat
 | [],_=>[]
 | r::m,i=>(r.getD c 0*l-AZ (r.drop (i+1)) (E1 c l m (i+1)))/r.getD i 0::E1 c l m (i+1)
theorem cP (c:Nat) (l:Rat) : ∀ (m:List (List Rat)) (i:Nat),(E1 c l m i).length=m.length
 | [],_=>rfl
 | r::m,i=>by rw[E1,List.length_cons,cP c l m (i+1),List.length_cons]
theorem Ak4 (r:List Rat) (i:Nat) (h:i<r.length):r.drop i=r.getD i 0::r.drop (i+1):=by
 rw[List.drop_eq_getElem_cons h,List.getD_eq_getElem?_getD,zE h];rfl
theorem Vy (c:Nat) (l:Rat) : ∀ (m:List (List Rat)) (i k:Nat) (r:List Rat),m[k]? = some r->i+k<r.length->r.getD (i+k) 0≠0->AZ (r.drop (i+k)) ((E1 c l m i).drop k)=r.getD c 0*l
 | q::m,i,0,r,h,hl,h0=>by
  obtain rfl:q=r:=by simpa using h
  rw[Nat.add_zero]at hl h0 ⊢;rw[Ak4 q i hl,E1,List.drop_zero,AZ];have:=Rat.div_mul_cancel h0 (a:=q.getD c 0*l-AZ (q.drop (i+1)) (E1 c l m (i+1)))
  grind
 | q::m,i,k+1,r,h,hl,h0=>by
  rw[E1,List.drop_succ_cons,show i+(k+1)=i+1+k by omega];exact Vy c l m (i+1) k r (by simpa using h) (by omega) (by rw[show i+1+k=i+(k+1) by omega];exact h0)
 | [],_,_,_,h,_,_=>by simp at h
theorem Acw : ∀ (i:Nat) (r x:List Rat),(∀ j,j<i->r.getD j 0=0)->AZ r x=AZ (r.drop i) (x.drop i)
 | 0,_,_,_=>rfl
 | i+1,[],x,_=>by simp [AZ]
 | i+1,r::rs,[],_=>by rw[eE,List.drop_nil,eE]
 | i+1,r::rs,x::xs,h=>by
  have h0:r=0:=by simpa using h 0 (by omega)
  rw[AZ,h0,Rat.zero_mul,Rat.zero_add,List.drop_succ_cons,List.drop_succ_cons];exact Acw i rs xs λ j hj=>by simpa using h (j+1) (by omega)
theorem AiP {c n:Nat} {l:Rat} {m:List (List Rat)} (hn : ∀ r∈m,n<=r.length) (hm:m.length=n) (ht:jG (A5 m) n) (r:List Rat) (hr:r∈m):AZ r (E1 c l m 0)=r.getD c 0*l:=by
 obtain ⟨k,hk⟩:=List.getElem?_of_mem hr;have Al:=(zS hk).1;have h1:=ht k (by omega);have h2:=Vy c l m 0 k r hk (by have:=hn r hr;omega) (by rw[Nat.zero_add,<-OG hk];exact h1.1);rw[Acw k r _ λ j hj=>by rw[<-OG hk];exact h1.2 j hj,<-h2,Nat.zero_add]
def EO (S n:Nat):Nat->Nat
 | 0=>0
 | t+1=>3*S+n*(S+EO S n t+1)
theorem vD (S n:Nat) : ∀ t,EO S n t<=EO S n (t+1)
 | 0=>Nat.zero_le _
 | t+1=>by
  rw[EO,EO];have:=Nat.mul_le_mul_left n (show S+EO S n t+1<=S+EO S n (t+1)+1 by have:=vD S n t;omega)
  omega
theorem Wl (S n:Nat) {t u:Nat} (h:t<=u):EO S n t<=EO S n u:=by
 obtain ⟨d,rfl⟩:=Nat.exists_eq_add_of_le h;induction d with
 | zero=>exact Nat.le_refl _
 | succ d ih=>exact Nat.le_trans (ih (by omega)) (vD S n (t+d))
theorem Ye {k l:Nat} {a b:List Rat} (ha:Bs k a) (hb:Bs l b) {n:Nat} (hn:b.length<=n):Bt (n*(k+l+1)) (AZ a b):=by
 rw[FU];exact (hb.dot ha).le (Nat.le_trans (Nat.mul_le_mul_right _ hn) (Nat.le_of_eq (by rw[Nat.add_comm l k])))
theorem pY {S n c:Nat} {l:Rat} (hl:Bt S l) : ∀ (m:List (List Rat)) (i:Nat),m.length<=n->Ms S m->Bs (EO S n m.length) (E1 c l m i)
 | [],_,_,_=>λ x hx=>by cases hx
 | r::m,i,hn,hm=>by
  have ih:=pY (c:=c) (n:=n) hl m (i+1) (by rw[List.length_cons]at hn;omega) (λ q hq=>hm q (List.mem_cons_of_mem _ hq));have hr:Bs S r:=hm r List.mem_cons_self;have hg : ∀ j,Bt S (r.getD j 0):=λ j=>by
   have:Ms S [r]:=λ x hx=>by obtain rfl:=List.mem_singleton.1 hx;exact hr
   exact this.getD 0 j
  have h1:=Ye (k:=S) (a:=r.drop (i+1)) (λ x hx=>hr x (List.mem_of_mem_drop hx)) ih (n:=n-1) (by rw[cP];rw[List.length_cons]at hn;omega);have h2:=(((hg c).mul hl).rn h1).nr (hg i);rw[List.length_cons];intro x hx;rw[E1]at hx;rcases List.mem_cons.1 hx with rfl|hx
  ·refine h2.le ?_
   rw[EO];obtain ⟨k,rfl⟩ : ∃ k,n=k+1:=⟨n-1,by rw[List.length_cons]at hn;omega⟩;have e:=Nat.succ_mul k (S+EO S (k+1) m.length+1);rw[Nat.succ_eq_add_one]at e;rw[Nat.add_sub_cancel];omega
  ·exact (ih x hx).le (vD S n m.length)
end Go.e9

namespace Go.e9
open F
attribute [local irreducible] AA AF AM AC CK AR AW BD A7 BW AQ BT CD DB BP A4 BO CE AB A8 AJ pw B4 BK CF CI CN CX CJ BS CM
variable {L:Lib}
set_option maxHeartbeats 16000000
def cw (n:Nat) (v:List Rat):List (Option Rat):=List.replicate (n-v.length) none++v.map some
theorem Vo {n:Nat} {v:List Rat} (h:v.length<=n):(cw n v).length=n:=by simp [cw];omega
theorem AjH (n:Nat):cw n []=List.replicate n none:=by simp [cw]
theorem AjF {n s:Nat} {v:List Rat} {x:Rat} (h:v[s]? = some x):(cw n v)[n-v.length+s]? = some (some x):=by
 rw[cw,List.getElem?_append_right (by simp),List.length_replicate,Nat.add_sub_cancel_left,List.getElem?_map,h];rfl
theorem AjI {n:Nat} {v:List Rat} {x:Rat} (h:v.length<n):(cw n v).set (n-(v.length+1)) (some x)=cw n (x::v):=by
 obtain ⟨k,hk⟩ : ∃ k,n-v.length=k+1:=⟨n-v.length-1,by omega⟩;have e:n-(v.length+1)=k:=by omega
 simp only[cw,hk,List.length_cons,e];rw[List.replicate_succ',List.append_assoc,List.set_append_right _ _ (by simp),List.length_replicate,Nat.sub_self];rfl
theorem AjG {n:Nat} {v:List Rat} (h:v.length=n):(cw n v).map eO=v.map eQ:=by
 simp [cw,h,Function.comp_def]
theorem eK {l:List Rat} {i:Nat} (h:i<l.length):l[i]? = some (l.getD i 0):=by
 rw[List.getD_eq_getElem?_getD,zE h];rfl
theorem AlE (N:u5 L) (q q':Bool) (m:List (List Rat)) (n W c S:Nat) (l:Rat) (hm:m.length=n) (hW : ∀ r∈m,r.length=W) (hn:1<=n/\n<=1000) (hnW:n<=W) (hc:c<W) (Qh:W<=100000)
  (hd : ∀ (k:Nat) (r:List Rat),m[k]? = some r->r.getD k 0≠0) (Ao:Ms S m) (hl:Bt S l) (hB:EO S n n<2199023255552):Ev L 234 [.sl q (CZ q' m),.int .i64 c,.agg (eQ l)] (.sl false ((E1 c l m 0).map eQ)):=by
 have hS:S<2199023255552:=by
  have:=Wl S n (show 1<=n by omega)
  rw[EO]at this;omega
 refine Ev.x N.X8 rfl rfl ?_;(repeat' ((first|apply AU|apply AE)<;>conv=>whnf))
 refine EK (enc:=eO) none n rfl (by omega) (by omega) ?_;(conv=>whnf)
 (repeat' ((first|(apply CB;omega)|apply AU)<;>conv=>whnf))
 rw[hm];refine B6 (λ k=>k) (λ(k:Nat)=>k<=n) (λ k=>[(8,.int .i64 ((k:Int)-1))]) (λ k=>[(13,13,.rw 3 ((cw n (E1 c l (m.drop k) k)).map eO))]) [] [] n (by first|exact (by (conv=>whnf);exact ⟨rfl,rfl,rfl⟩)|(rw[List.drop_of_length_le (by omega),E1,AjH];exact (by (conv=>whnf);exact ⟨rfl,rfl,rfl⟩))) (by omega) ?_;intro k p1 kh;rcases k with _|k
 ·clear kh
  rw[List.drop_zero,AjG (by rw[cP];exact hm)];(repeat' ((first|(apply AG<;>intro hc<;>try (exfalso;omega))|apply AE)<;>conv=>whnf))
  refine DR (enc:=eQ) (λ_=>rfl) rfl (by rw[cP];omega) ?_;(conv=>whnf)
  exact AY rfl (by simp only[A6,true_and];exact OK _)
 ·obtain ⟨r,hr⟩ : ∃ r,m[k]? = some r:=⟨_,zE (by omega)⟩
  have ov:m[(k:Int).toNat]? = some r:=hr;have gm:=hW r (zM hr);have e1:((k+1:Nat):Int)-1=k:=by omega
  have hv:E1 c l (m.drop k) k=(r.getD c 0*l-AZ (r.drop (k+1)) (E1 c l (m.drop (k+1)) (k+1)))/r.getD k 0::E1 c l (m.drop (k+1)) (k+1):=by
   obtain ⟨h1,h2⟩:=zS hr;rw[List.drop_eq_getElem_cons h1,E1,h2]
  have ow:(E1 c l (m.drop (k+1)) (k+1)).length=n-(k+1):=by rw[cP,List.length_drop,hm]
  have xi:Bs (EO S n (n-(k+1))) (E1 c l (m.drop (k+1)) (k+1)):=by
   have:=pY (c:=c) (n:=n) hl (m.drop (k+1)) (k+1) (by rw[List.length_drop];omega) (λ r hr=>Ao r (List.mem_of_mem_drop hr))
   rwa [List.length_drop,hm]at this
  have Kr:EO S n (n-(k+1)+1)<=EO S n n:=Wl S n (by omega);rw[EO]at Kr;have mo:=Ao.at hr;have Aq:r[(c:Int).toNat]? = some (r.getD c 0):=eK (by omega);have Gu:r[(k:Int).toNat]? = some (r.getD k 0):=eK (by omega);have Sr:=hd k r hr;have bc:=mo.at Aq;have bk:=mo.at Gu;have hM:=FV N.toa5 bc hl hS hS;generalize Bx:r.getD c 0=rc at *;generalize AF2:r.getD k 0=rk at *;generalize E1 c l (m.drop (k+1)) (k+1)=v at *;generalize EO S n (n-(k+1))=X at *;rw[e1];(repeat' ((first|(apply AG<;>intro hc<;>try (exfalso;omega))|(apply AX;omega)|(refine BH (by assumption) ?_ rfl ?_;omega)|apply AE|refine AD (hM) ?_)<;>conv=>whnf))
  refine G8 (λ s _=>n-s) (λ(s:Nat) (acc:Rat)=>k+1+s<=n/\acc=rc*l-AZ ((r.drop (k+1)).take s) (v.take s)) (λ s _=>[(10,.int .i64 ((k+1+s:Nat):Int))]) (λ_ acc=>[(9,9,.bx (eQ acc))]) [] [] 0 (rc*l) (by (conv=>whnf);exact ⟨rfl,rfl,rfl⟩) ⟨by omega,by simp only[List.take_zero,AZ];grind⟩ ?_;intro s acc ⟨p2,p3⟩ sh;have ij:Bt (2*S+(n-(k+1))*(S+X+1)+1) acc:=by
   rw[p3];have h1:=Ye (k:=S) (l:=X) (a:=(r.drop (k+1)).take s) (b:=v.take s) (n:=n-(k+1)) (λ x hx=>mo x (List.mem_of_mem_drop (List.mem_of_mem_take hx))) (xi.take s) (by rw[List.length_take];omega);exact ((bc.mul hl).rn h1).le (by omega)
  have hmul:=Nat.mul_le_mul_right (S+X+1) (show n-(k+1)+1<=n by omega);rw[Nat.add_mul,Nat.one_mul]at hmul;have hX:X<2199023255552:=by
   have:=Nat.le_mul_of_pos_left (S+X+1) (show 0<n by omega)
   omega
  by_cases hs:k+1+s<n
  ·obtain ⟨x,hx⟩ : ∃ x,v[s]? = some x:=⟨_,zE (by omega)⟩
   obtain ⟨y,hy⟩ : ∃ y,r[k+1+s]? = some y:=⟨_,zE (by omega)⟩;have Dq:r[((k+1+s:Nat):Int).toNat]? = some y:=hy;have Hc:(r.drop (k+1))[s]? = some y:=by rw[List.getElem?_drop];exact hy
   have sd:=AjF (n:=n) hx;rw[ow,show n-(n-(k+1))+s=k+1+s by omega]at sd;have z7:=Vo (n:=n) (v:=v) (by omega);have Ga:=mo.at hy
   have bx:=xi.at hx;have jd:=FV N.toa5 Ga bx hS hX
   have Qe:=rD N.tocp ij (Ga.mul bx) (by omega) (by
    have:=Nat.le_mul_of_pos_left (S+X+1) (show 0<n-(k+1) by omega)
    omega)
   have Gm:=qU Hc hx;generalize cw n v=C at *;(repeat' ((first|(apply AG<;>intro hc<;>try (exfalso;omega))|(apply A0;omega)|apply AU|(refine BH (by assumption) ?_ rfl ?_;omega)|apply AE)<;>conv=>whnf))
   refine oV (enc:=eO) (e:=some x) (by rw[Nat.zero_add];exact sd) rfl ?_;(conv=>whnf)
   (repeat' ((first|(apply AX;omega)|refine AD (jd) ?_|refine AD (Qe) ?_)<;>conv=>whnf))
   refine B3 [] (by (conv=>whnf);exact ⟨rfl,rfl,rfl⟩) (sh (s+1) (acc-y*x) (by omega) ⟨by omega,?_⟩);rw[Gm,p3];grind
  ·obtain rfl:s=n-(k+1):=by omega
   clear sh;have Gm:acc=rc*l-AZ (r.drop (k+1)) v:=by
    rw[p3,FU,mJ ow,FU]
   have hD:=mN N.toa5 ij bk (by omega) hS Sr;have kr:=AjI (n:=n) (v:=v) (x:=acc/rk) (by omega);rw[ow,show n-(n-(k+1)+1)=k by omega]at kr;have z7:=Vo (n:=n) (v:=v) (by omega);rw[<-Gm]at hv;rw[<-hv]at kr;generalize cw n v=C at *;(repeat' ((first|(apply AG<;>intro hc<;>try (exfalso;omega))|(apply A0;omega)|apply AU|(refine BH (by assumption) ?_ rfl ?_;omega)|apply AE|refine AD (hD) ?_)<;>conv=>whnf))
   refine FP (enc:=eO) (some (acc/rk)) rfl (λ e=>by cases e<;>rfl) (by omega) ?_;(conv=>whnf)
   rw[kr];(repeat' ((first|(apply CB;omega)|fail)<;>conv=>whnf))
   exact BL [] (kh k (by omega) (by omega))
end Go.e9

namespace Go.e9
variable {L:Lib}
def WU:BJ->Bool
 | .ret=>false
 | .dr c _ _=>WU c
 | .scope c=>WU c
 | .seq a b=>WU a&&WU b
 | .cond _ a b=>WU a&&WU b
 | .block _ c=>WU c
 | .loop c=>WU c
 | _=>true
def W8:It->Bool
 | .code c=>WU c
 | .lp c=>WU c
 | _=>true
theorem mT {id:Nat} {kk:List It} : ∀ {l l':List It},D6 id l=some l'->D6 id (l++kk)=some (l'++kk)
 | [],_,h=>by cases h
 | .m5 i::l,l',h=>by
  simp only[List.cons_append,D6]at h ⊢;split at h
  ·rename_i e;rw[if_pos e];cases h;rfl
  ·rename_i e;rw[if_neg e];exact mT h
 | .code c::l,l',h=>by
  simp only[List.cons_append,D6]at h ⊢;exact mT h
 | .oc a b::l,l',h=>by
  simp only[List.cons_append,D6]at h ⊢;exact mT h
 | .lp c::l,l',h=>by
  simp only[List.cons_append,D6]at h ⊢;exact mT h
theorem mS {id:Nat} {p:It->Bool} : ∀ {l l':List It},D6 id l=some l'->l.all p=true->l'.all p=true
 | [],_,h,_=>by cases h
 | .m5 i::l,l',h,ha=>by
  simp only[D6]at h;simp only[List.all_cons,Bool.and_eq_true]at ha;split at h
  ·cases h;exact ha.2
  ·exact mS h ha.2
 | .code c::l,l',h,ha=>by
  simp only[D6]at h;simp only[List.all_cons,Bool.and_eq_true]at ha;exact mS h ha.2
 | .oc a b::l,l',h,ha=>by
  simp only[D6]at h;simp only[List.all_cons,Bool.and_eq_true]at ha;exact mS h ha.2
 | .lp c::l,l',h,ha=>by
  simp only[D6]at h;simp only[List.all_cons,Bool.and_eq_true]at ha;exact mS h ha.2
theorem OV {C:Cl} {kk:List It} {m:Nat} {BA BR:St} (hk:run C m kk BA=some BR) : ∀ (n:Nat) (l:List It) (st:St),l.all W8=true->run C n l st=some BA->run C (n+m) (l++kk) st=some BR
 | 0,_,_,_,h=>by cases h
 | n+1,[],st,_,h=>by
  simp only[run,Option.some.injEq]at h;subst h;exact SH (C:=C) (C':=C) ⟨λ_ _ _ h=>h,λ_ _ _ _ h=>h,rfl⟩ (by omega) hk
 | n+1,.m5 i::l,st,ha,h=>by
  simp only[List.all_cons,Bool.and_eq_true]at ha;rw[show n+1+m=n+m+1 by omega];simp only[List.cons_append,run]at h ⊢;exact OV hk n l st ha.2 h
 | n+1,.oc ts ss::l,st,ha,h=>by
  simp only[List.all_cons,Bool.and_eq_true]at ha;rw[show n+1+m=n+m+1 by omega];simp only[List.cons_append,run]at h ⊢;exact OV hk n l _ ha.2 h
 | n+1,.lp c::l,st,ha,h=>by
  rw[show n+1+m=n+m+1 by omega];simp only[List.cons_append,run]at h ⊢;exact OV hk n (.code c :: .lp c::l) st (by simp only[List.all_cons,W8,Bool.and_eq_true]at ha ⊢;exact ⟨ha.1,ha.1,ha.2⟩) h
 | n+1,.code c::l,st,ha,h=>by
  simp only[List.all_cons,W8,Bool.and_eq_true]at ha;obtain ⟨h1,h2⟩:=ha;rw[show n+1+m=n+m+1 by omega];cases c with
  | ret=>cases h1
  | skip =>
   simp only[List.cons_append,run]at h ⊢;exact OV hk n l st h2 h
  | ops o d =>
   simp only[List.cons_append,run]at h ⊢;cases hs:DE C o st with
   | none=>rw[hs]at h;cases h
   | some s'=>rw[hs]at h;exact OV hk n l s' h2 h
  | dr c ts ss =>
   simp only[List.cons_append,run]at h ⊢;exact OV hk n (.code c :: .oc ts ss::l) st (by simp only[List.all_cons,W8,Bool.and_eq_true];exact ⟨h1,trivial,h2⟩) h
  | scope c =>
   simp only[List.cons_append,run]at h ⊢;exact OV hk n (.code c::l) st (by simp only[List.all_cons,W8,Bool.and_eq_true];exact ⟨h1,h2⟩) h
  | seq a b =>
   simp only[WU,Bool.and_eq_true]at h1;simp only[List.cons_append,run]at h ⊢;exact OV hk n (.code a :: .code b::l) st (by simp only[List.all_cons,W8,Bool.and_eq_true];exact ⟨h1.1,h1.2,h2⟩) h
  | cond x a b =>
   simp only[WU,Bool.and_eq_true]at h1;simp only[List.cons_append,run]at h ⊢;split at h
   ·exact OV hk n (.code a::l) st (by simp only[List.all_cons,W8,Bool.and_eq_true];exact ⟨h1.1,h2⟩) h
   ·exact OV hk n (.code b::l) st (by simp only[List.all_cons,W8,Bool.and_eq_true];exact ⟨h1.2,h2⟩) h
   ·cases h
  | block i c =>
   simp only[List.cons_append,run]at h ⊢;exact OV hk n (.code c :: .m5 i::l) st (by simp only[List.all_cons,W8,Bool.and_eq_true];exact ⟨h1,trivial,h2⟩) h
  | loop c =>
   simp only[List.cons_append,run]at h ⊢;exact OV hk n (.code c :: .lp c::l) st (by simp only[List.all_cons,W8,Bool.and_eq_true];exact ⟨h1,h1,h2⟩) h
  | exit i =>
   simp only[List.cons_append,run]at h ⊢;cases he:D6 i l with
   | none=>rw[he]at h;cases h
   | some l' =>
    rw[he]at h;rw[mT he];exact OV hk n l' st (mS he h2) h
theorem lD {l kk:List It} {tm:Tm} {M:Mem} {Q:Tm->Mem->Prop} (hn:l.all W8=true) (h:AA L l tm M (λ tm M=>AA L kk tm M Q)):AA L (l++kk) tm M Q:=by
 intro σ st hr;obtain ⟨n,c,BA,h1,σ1,tm1,M1,gi,h2⟩:=h σ st hr;obtain ⟨m,c2,BR,h3,h4⟩:=h2 σ1 BA gi;obtain ⟨c3,g1,g2⟩ : ∃ c3,(C6 L c).le (C6 L c3)/\(C6 L c2).le (C6 L c3):=⟨max c c2,FJ (Nat.le_max_left _ _),FJ (Nat.le_max_right _ _)⟩;exact ⟨n+m,c3,BR,OV (SH g2 (Nat.le_refl _) h3) n l st hn (SH g1 (Nat.le_refl _) h1),h4⟩
structure oU (p:Prop):Prop where
 go ::
 out:p
theorem AgL {α β γ:Type} {l kk:List It} {tm:Tm} {M:Mem} {Q:Tm->Mem->Prop} (P:α->β->γ->Prop) (vs:α->β->γ->Tm) (Ms:α->β->γ->Mem) (ts:List Nat) (hn:l.all W8=true)
  (hr : ∀ a b c,P a b c->AA L kk (vs a b c++eg ts tm) (Ms a b c++M) Q)
  (h:(∀ a b c,P a b c->AA L kk (vs a b c++eg ts tm) (Ms a b c++M) Q)->AA L l tm M (λ tm M=>oU (AA L kk tm M Q))):AA L (l++kk) tm M Q:=by
 refine lD hn ?_;intro σ st hs;obtain ⟨n,c,BA,h1,σ1,tm1,M1,gi,h2⟩:=h hr σ st hs;exact ⟨n,c,BA,h1,σ1,tm1,M1,gi,h2.out⟩
end Go.e9

namespace Go.e9
open F
attribute [local irreducible] AA AF AM AC CK AR AW BD A7 BW AQ BT CD DB BP A4 BO CE AB A8 AJ pw B4 BK CF CI CN CX CJ BS CM
variable {L:Lib}
set_option maxHeartbeats 16000000
theorem vV:dg 1=[1]:=by rw[OM (by decide)];simp [E8]
theorem wS (N:a5 L) {s:Rat} {a l d:Nat} (q:Bool) (hs:Bt a s) (hd:d<=2^l) (ha:a<2199023255552) (hl:l<2199023255552):Ev L 99 [.agg (eQ s),.agg [.bool false,.sl false ((dg d).map AL),.sl q [[.int .u32 1]]]] (.agg (eQ (s*((d:Nat):Rat)))):=by
 have vj:Bt l ((d:Nat):Rat):=⟨by simpa using hd,by simpa using Nat.one_le_two_pow⟩;have e:=FF ((d:Nat):Rat);have h1:=(vj.sm hl).1;have h2:=(vj.sm hl).2;rw[Rat.num_natCast,Rat.den_natCast,Int.natAbs_natCast,show decide ((d:Int)<0)=false by simp,vV]at e;rw[Rat.num_natCast,Int.natAbs_natCast]at h1;rw[Rat.den_natCast,vV]at h2;have h:=xF N 68719476736 (by omega) (decide (s.num<0)) false false false false q _ _ (dg d) [1] (hs.sm ha).1 (hs.sm ha).2 h1 h2;rw[FF,e]at h;exact h
theorem AqH {N i k:Nat} (hk:k<N) : ∀ t,t∈(List.range N).set i k->t<N:=λ t ht=>by
 rcases List.mem_or_eq_of_mem_set ht with h|h
 ·exact List.mem_range.1 h
 ·omega
theorem kI {z:Nat} {m:List (List Rat)} {i:Nat} {r:List Rat} (h:m[i]? = some r):(B7 z eQ m)[i]? = some (some (z,r.map eQ)):=by
 rw[B7,List.getElem?_map,h];rfl
theorem AoI {z:Nat} {m:List (List Rat)} {i j:Nat} {a b:List Rat}:((B7 z eQ m).set i (some (z,b.map eQ))).set j (some (z,a.map eQ))=B7 z eQ ((m.set i b).set j a):=by
 simp only[B7,List.map_set]
theorem lJ {R:List (Option (Nat × List (List AV)))} {e z:Nat} {es:List (List AV)} {K:Nat->List (List AV)->Prop} (h:R[e]? = some (some (z,es))) (hk:K z es):BK R e K:=by
 unfold BK;exact ⟨z,es,h,hk⟩
theorem Oj {α:Type} {l:List α} {i:Nat} {x:α} (h:l[i]? = some x):l.set i x=l:=by
 obtain ⟨h1,rfl⟩:=zS h;exact List.set_getElem_self h1
theorem Aos {a b:List Rat} {c:Nat} (hl:a.length=b.length) (h : ∀ j,j<c->a.getD j 0=0/\b.getD j 0=0):a.take c++b.drop c=b:=by
 have e:a.take c=b.take c:=by
  refine List.ext_getElem? λ j => ?_
  rw[List.getElem?_take,List.getElem?_take];by_cases hj:j<c
  ·rw[if_pos hj,if_pos hj]
   obtain ⟨h1,h2⟩:=h j hj;rw[List.getD_eq_getElem?_getD]at h1 h2;by_cases ma:j<a.length
   ·rw[zE ma,zE (by omega)]at *
    simp only[Option.getD_some]at h1 h2;rw[h1,h2]
   ·rw[List.getElem?_eq_none (by omega),List.getElem?_eq_none (by omega)]
  ·rw[if_neg hj,if_neg hj]
 rw[e,List.take_append_drop]
theorem Aoq {a b:List Rat} {j:Nat} {x:Rat} (hl:a.length=b.length) (hx:b[j]? = some x):(a.take j++b.drop j)[j]? = some x:=by
 have h1:=(zS hx).1;have ht:(a.take j).length=j:=by rw[List.length_take];omega
 rw[List.getElem?_append_right (by omega),ht,Nat.sub_self,List.getElem?_drop];exact hx
theorem Aor {a b:List Rat} {j:Nat} {y:Rat} (hl:a.length=b.length) (hy:a[j]? = some y):(a.take j++b.drop j).set j y=a.take (j+1)++b.drop (j+1):=by
 have h1:=(zS hy).1;have ht:(a.take j).length=j:=by rw[List.length_take];omega
 rw[List.set_append_right _ _ (by omega),ht,Nat.sub_self,List.drop_eq_getElem_cons (by omega),List.set_cons_zero,SZ hy,List.append_assoc];rfl
theorem Yp {m0 m a b:List (List Rat)} {K n w c:Nat} {P:List Nat} {odd:Bool} {l:Rat} (hE:HB m0 K (n+w) n m P c odd l) (hs:lO m0 (DP a b)) (hl:a.length=b.length) (ha : ∀ r∈a,r.length=n) (dh:a.length=n) (nf:n<=c\/n<=P.length):P.length=n↔NS n a:=by
 have Rh:EF m (n+w) n P:=by
  have hc:=hE.cc;rcases nf with h|h
  ·obtain rfl:c=n:=by omega
   exact hE.gp
  ·have h1:=hE.gp.pl
   have h2:=hE.len;have h3:=hs.1;simp only[DP,List.length_zipWith]at h3;exact hE.gp.wide (by omega) hc
 exact Apn Rh (λ X=>(hE.Ab X).trans (hs.Ab X)) hl ha
def wM:Option (List Rat)->List AV
 | none=>[.nil]
 | some r=>[.sl false (r.map eQ)]
def OS (y:Nat->List Rat) (n w:Nat):List (List Rat):=(List.range n).map λ i:Nat=>(List.range w).map λ c=>(y c).getD i 0
theorem AmN {n:Nat} {l:List (List Rat)} (h:l.length=n):(fz none (l.map some) n).map wM=eM l:=by
 rw[gV (by simpa using h),List.map_map];rfl
theorem Af1 {m0 m:List (List Rat)} {K n W c:Nat} {P:List Nat} {odd:Bool} {l:Rat} (hE:HB m0 K W n m P c odd l) (hP:P.length=n) (lf:m.length=n):jG (A5 m) n:=by
 have hc:c=n:=by have:=hE.gp.le;have:=hE.cc;omega
 subst hc;exact hE.gp.Us λ i hi=>by
  obtain ⟨q,hq⟩ : ∃ q,P[i]? = some q:=⟨_,zE (by omega)⟩;rw[hq,hE.gp.diag hP i q hq]
theorem Ap5 {m0 m a b:List (List Rat)} {K n w c:Nat} {P:List Nat} {odd:Bool} {l:Rat} (hE:HB m0 K (n+w) n m P c odd l) (hs:lO m0 (DP a b)) (hl:a.length=b.length) (gb : ∀ r∈a,r.length=n) (qo : ∀ r∈b,r.length=w) (hP:P.length=n) (lf:m.length=n) :
  ∀ c',c'<w -> ∀ (i:Nat) (r s:List Rat),a[i]? = some r->b[i]? = some s->AZ r ((E1 (n+c') l m 0).map (· / l))=s.getD c' 0:=by
 intro c' dk i r s hr ud;have ht:=Af1 hE hP lf;have hlen:=hE.gp.lr;refine Aje (λ X=>(hE.Ab X).trans (hs.Ab X)) hl gb qo dk (by rw[List.length_map,cP];exact lf) hlen (λ x hx => ?_) hr ud;have h1:=AiP (c:=n+c') (l:=l) (λ r hr=>by rw[hlen r hr];omega) lf ht x hx;have zu:((E1 (n+c') l m 0).map (· * l⁻¹)).length=n:=by rw[List.length_map,cP];exact lf
 rw[show ((E1 (n+c') l m 0).map (· / l))=(E1 (n+c') l m 0).map (· * l⁻¹) from List.map_congr_left λ z _=>Rat.div_def z l,FU,<-mJ zu,List.take_take,Nat.min_self,mJ zu,cT,FU,h1,Rat.mul_assoc,Rat.mul_inv_cancel _ hE.l0,Rat.mul_one]
theorem Ap8 (N:u5 L) (q q1 q2 q3:Bool) (a0 b0:List (List Rat)) (a:List (List Rat)) (n WW k:Nat) {K:Nat} (dh:a.length=n) (gb : ∀ r∈a,r.length=WW) (hn:1<=n/\n<=52) (hW:WW<=104) (ij:Ms k a) (nw : ∀ r∈a,∀ j,Bt K (BF (r.take j))) (Fe:k<=K) (Ho:K<=1000000000000) {kk:List It} {Q:Tm->Mem->Prop}
  (fk:AA L kk ([(5,.row 231019 0 3 0 n),(4,.row 231016 0 1 0 n)]++[(1000+43,.row 22 0 1 0 n),(1000+26,.bool false),(1000+25,.int .i64 n),(1000+24,.int .i64 n),(1000+7,.row 22 0 1 0 n),(1000+6,.int .i64 n),(1000+0,.sl q (CZ q1 a0)),(1000+(0+1),.sl q2 (CZ q3 b0))]) ([(231016,231016,.mx (B7 3 eQ (whole a))),(231019,231019,.rw 3 ((a.map BF).map eQ))]++[(22,22,.rw 1 (eM a))]) Q) :
  AA L (.lp HN.l1 :: .m5 0::kk) ([(22,.int .i64 0),(21,.int .i64 n),(20,.row 22 0 1 0 n),(5,.row 231019 0 3 0 n),(4,.row 231016 0 1 0 n)]++[(1000+43,.row 22 0 1 0 n),(1000+26,.bool false),(1000+25,.int .i64 n),(1000+24,.int .i64 n),(1000+7,.row 22 0 1 0 n),(1000+6,.int .i64 n),(1000+0,.sl q (CZ q1 a0)),(1000+(0+1),.sl q2 (CZ q3 b0))]) ([(231016,231016,.mx (List.replicate n none)),(231019,231019,.rw 3 ((List.replicate n none).map eO))]++[(22,22,.rw 1 (eM a))]) Q:=by
 have hI:=HL N.toa5 1 (by omega);refine lD (l:=[_,_]) rfl ?_;refine B6 (λ i=>n-i) (λ(i:Nat)=>i<=n) (λ i=>[(22,.int .i64 i)]) (λ i=>[(231016,231016,.mx (mz (whole a) n i)),(231019,231019,.rw 3 ((DH ((a.map BF).take i) n).map eO))]) [] [] 0 (by first|exact (by (conv=>whnf);exact ⟨rfl,rfl,rfl⟩)|(rw[<-kN (whole a),List.take_zero,<-OQ];exact (by (conv=>whnf);exact ⟨rfl,rfl,rfl⟩))) (by omega) ?_;intro i p1 ih;have Kj:=kK (Q:=whole a) p1;by_cases hi:i<n
 ·obtain ⟨r,hr⟩ : ∃ r,a[i]? = some r:=⟨_,zE (by omega)⟩
  have ov:a[(i:Int).toNat]? = some r:=hr;have gm:=gb r (zM hr);have mo:=ij.at hr;have o9:=kL (Q:=whole a) (i:=i) (n:=n) (row:=r.map (· * BF r)) (by simp [whole,hr]) hi;have zn:(a.map BF)[i]? = some (BF r):=by simp [hr]
  generalize mz (whole a) n i=R0 at *;have Dg : ∀ j,Bt K (BF (r.take j)):=nw r (zM hr);have rf:=Dg WW;rw[List.take_of_length_le (by omega)]at rf;(repeat' ((first|(apply AG<;>intro hc<;>try (exfalso;omega))|(apply A0;omega)|apply AU|(refine O5 ?_ (λ_=>rfl) (λ v hv => ?_);omega)|apply AE|refine AD (hI) ?_)<;>conv=>whnf))
  try cases hr.symm.trans hv
  refine G8 (λ j _=>WW-j) (λ(j:Nat) (s:Rat)=>j<=WW/\s=BF (r.take j)) (λ j _=>[(30,.int .i64 j)]) (λ_ s=>[(231008,231008,.bx (eQ s))]) [] [] 0 ((1:Int):Rat) (by (conv=>whnf);exact ⟨rfl,rfl,rfl⟩) ⟨by omega,by rw[List.take_zero];rfl⟩ ?_;intro j s ⟨p2,p3⟩ jh;by_cases hj:j<WW
  ·obtain ⟨x,hx⟩ : ∃ x,r[j]? = some x:=⟨_,zE (by omega)⟩
   have nq:r[(j:Int).toNat]? = some x:=hx;have wz:Bt K s:=by rw[p3];exact Dg j
   have bx:=mo.at hx;have fj:=FV N.toa5 wz bx (by omega) (by omega);have jd:=wS N.toa5 true wz (wz.mul bx).2 (by omega) (by omega);have zj:BF (r.take (j+1))=s*(((s*x).den:Nat):Rat):=by rw[SZ hx,sZ,<-p3];rfl
   (repeat' ((first|(apply AG<;>intro hc<;>try (exfalso;omega))|(apply AX;omega)|(refine BH (by assumption) ?_ rfl ?_;omega)|refine H6 rfl ?_|apply AE|refine AD (fj) ?_|refine AD (jd) ?_)<;>conv=>whnf))
   exact B3 [] (by (conv=>whnf);exact ⟨rfl,rfl,rfl⟩) (jh (j+1) _ (by omega) ⟨by omega,zj.symm⟩)
  have ej:j=WW:=by omega
  clear jh;rw[List.take_of_length_le (by omega)]at p3;subst p3;(repeat' ((first|(apply AG<;>intro hc<;>try (exfalso;omega))|apply AU|apply AE)<;>conv=>whnf))
  rw[gm];refine EK (enc:=eO) none WW rfl (by omega) (by omega) ?_;(conv=>whnf)
  (repeat' ((first|(apply A0;omega)|fail)<;>conv=>whnf))
  refine A0 (by simp) ?_;refine dX (i:=i) (by omega) (by omega) ?_;(conv=>whnf)
  (repeat' (apply AU<;>conv=>whnf))
  refine B6 (λ j=>WW-j) (λ(j:Nat)=>j<=WW) (λ j=>[(53,.int .i64 j)]) (λ j=>[(231016,231016,.mx (R0.set i (some (3,(DH ((r.map (· * BF r)).take j) WW).map eO))))]) [] [] 0 (by first|exact (by (conv=>whnf);exact ⟨rfl,rfl,rfl⟩)|(rw[List.take_zero,<-OQ];exact (by (conv=>whnf);exact ⟨rfl,rfl,rfl⟩))) (by omega) ?_;intro j r2 jh;have Cc:((r.map (· * BF r)).take j).length=j:=by rw[List.length_take,List.length_map];omega
  have Db:=J3 (l:=(r.map (· * BF r)).take j) (m:=WW) (by omega);by_cases hj:j<WW
  ·obtain ⟨x,hx⟩ : ∃ x,r[j]? = some x:=⟨_,zE (by omega)⟩
   have nq:r[(j:Int).toNat]? = some x:=hx;have bx:=mo.at hx;have fj:=FV N.toa5 bx rf (by omega) (by omega);have hs:=OR (l:=(r.map (· * BF r)).take j) (m:=WW) (x:=x*BF r) (by omega);rw[Cc,<-SZ (show (r.map (· * BF r))[j]? = some (x*BF r) by rw[List.getElem?_map,hx];rfl)]at hs;generalize DH ((r.map (· * BF r)).take j) WW=W0 at *;(repeat' ((first|(apply AG<;>intro hc<;>try (exfalso;omega))|(apply A0;omega)|(refine BH (by assumption) ?_ rfl ?_;omega)|apply AE)<;>conv=>whnf))
   refine dS (by omega) (by omega) ?_;(conv=>whnf)
   (repeat' (refine AD (fj) ?_<;>conv=>whnf))
   refine A0 (by rw[List.length_map];omega) ?_;(conv=>whnf)
   skip
   refine cJ (by omega) (by omega) ?_;(conv=>whnf)
   refine FP (enc:=eO) (some (x*BF r)) rfl (λ e=>by cases e<;>rfl) (by omega) ?_;(conv=>whnf)
   rw[hs];refine jD (by omega) (by rw[List.length_map,List.length_map,<-hs,List.length_set]) ?_;(conv=>whnf)
   (repeat' ((first|(apply AX;omega)|fail)<;>conv=>whnf))
   exact BL [] (jh (j+1) (by omega) (by omega))
  have ej:j=WW:=by omega
  clear jh;rw[List.take_of_length_le (by rw[List.length_map];omega),OO (by rw[List.length_map];exact gm),o9];have td:((a.map BF).take i).length=i:=by rw[List.length_take,List.length_map];omega
  have hfi:=J3 (l:=(a.map BF).take i) (m:=n) (by omega);have il:=OR (l:=(a.map BF).take i) (m:=n) (x:=BF r) (by omega);rw[td,<-SZ zn]at il;generalize DH ((a.map BF).take i) n=W1 at *;(repeat' ((first|(apply AG<;>intro hc<;>try (exfalso;omega))|(apply A0;omega)|apply AE)<;>conv=>whnf))
  refine FP (enc:=eO) (some (BF r)) rfl (λ e=>by cases e<;>rfl) (by omega) ?_;(conv=>whnf)
  rw[il];(repeat' ((first|(apply AX;omega)|fail)<;>conv=>whnf))
  exact BL [] (ih (i+1) (by omega) (by omega))
 have ei:i=n:=by omega
 clear ih;rw[ei,kJ (by simp [whole,dh]),List.take_of_length_le (by rw[List.length_map];omega),OO (by rw[List.length_map];exact dh)];(repeat' ((first|(apply AG<;>intro hc<;>try (exfalso;omega))|apply AE)<;>conv=>whnf))
 exact B3 [] (by (conv=>whnf);exact ⟨rfl,rfl,rfl⟩) fk
theorem Ap7 (N:u5 L) (q2 q3:Bool) (b0 jm:List (List Rat)) {m0 m1:List (List Rat)} {n cw WW K0 c:Nat} {P:List Nat} {o:Bool} {l:Rat} {rp:List Rat} (sc:List Rat) (wx:m0.length=n) (hn:1<=n/\n<=52) (hW:cw<=WW) (Qh:WW<=104) (Gd:1<=K0) (hB:6^n*K0<=1000000000000) (hP:P.length<n) (Cv:c<cw) (hS:cO m0 K0 WW cw P c o l rp m1 (P.length+1)) {kk:List It} {Q:Tm->Mem->Prop}
  (fk : ∀ m2,cO m0 K0 WW cw P c o l rp m2 n->AA L kk ([(9,.bool o),(8,.int .i64 c),(7,.int .i64 (P.length:Nat)),(10,.ptr 233010 0 0 0),(5,.ptr 233005 0 0 0),(0,.row 231016 0 1 0 n),(0+1,.int .i64 cw)]++[(1000+49,.int .i64 n),(1000+48,.row 231016 0 1 0 n),(1000+9,.row 231016 0 1 0 n),(1000+6,.int .i64 n),(1000+(0+1),.sl q2 (CZ q3 b0))]) ([(231016,231016,.mx (B7 3 eQ m2)),(233010,233010,.bx (eQ l)),(233005,233005,.bx [.bool false,.nil,.nil])]++[(22,22,.rw 1 (eM jm)),(231019,231019,.rw 3 (sc.map eQ))]) Q) :
  AA L (.lp U2.l4 :: .m5 6::kk) ([(12,.int .i64 ((P.length+1:Nat):Int)),(9,.bool o),(8,.int .i64 c),(7,.int .i64 (P.length:Nat)),(10,.ptr 233010 0 0 0),(5,.ptr 233005 0 0 0),(0,.row 231016 0 1 0 n),(0+1,.int .i64 cw)]++[(1000+49,.int .i64 n),(1000+48,.row 231016 0 1 0 n),(1000+9,.row 231016 0 1 0 n),(1000+6,.int .i64 n),(1000+(0+1),.sl q2 (CZ q3 b0))]) ([(231016,231016,.mx (B7 3 eQ m1)),(233010,233010,.bx (eQ l)),(233005,233005,.bx [.bool false,.nil,.nil])]++[(22,22,.rw 1 (eM jm)),(231019,231019,.rw 3 (sc.map eQ))]) Q:=by
 refine lD (l:=[_,_]) rfl ?_;refine G8 (λ_ i=>n-i) (λ(m:List (List Rat)) (i:Nat)=>cO m0 K0 WW cw P c o l rp m i/\P.length+1<=i/\i<=n) (λ_ i=>[(12,.int .i64 i)]) (λ m _=>[(231016,231016,.mx (B7 3 eQ m))]) [] [] m1 (P.length+1) (by (conv=>whnf);exact ⟨rfl,rfl,rfl⟩) ⟨hS,by omega,by omega⟩ ?_;clear hS;intro m2 i ⟨hS,j1,j2⟩ sh;have Jc:=hS.len;rw[wx]at Jc;by_cases hj:i<n
 ·obtain ⟨rq,vt⟩ : ∃ r,m2[i]? = some r:=⟨_,zE (by omega)⟩
  have ug:=hS.ht;have Jw:=hS.gp.lr rq (zM vt);have fm:=hS.gp.lr rp (zM ug);(repeat' ((first|(apply AG<;>intro hc<;>try (exfalso;omega))|(apply A0;omega)|(refine bI ?_ (λ r hr => ?_);omega)|apply AE)<;>conv=>whnf))
  rename_i rA hrA;cases vt.symm.trans hrA;cases ug.symm.trans hr;rw[show 0+((i:Nat):Int).toNat=i by omega,show 0+((P.length:Nat):Int).toNat=P.length by omega,show (List.map eQ rq).length=WW by rw[List.length_map];exact Jw,show (List.map eQ rp).length=WW by rw[List.length_map];exact fm];have Jn:rq[c]? = some (rq.getD c 0):=eK (by omega);refine FY 1000 N.YA rfl rfl ?_;have zk:rp[c]? = some (rp.getD c 0):=eK (by omega);have Td:=hS.step (by omega) vt;have z7:(comb (rp.getD c 0) (rq.getD c 0) l rq rp).length=WW:=by rw[vL (by omega)];exact Jw
  have hcg:=λ j=>vK (p:=rp.getD c 0) (f:=rq.getD c 0) (l:=l) (r:=rq) (t:=rp) (by omega) j
  have mq:=λ j (h:j<c)=>hS.gp.zr i rq (by omega) vt j h
  have wg:=λ j (h:j<c)=>hS.gp.zr P.length rp (Nat.le_refl _) ug j h
  have hbq:=hS.hi i rq (Nat.le_refl i) vt;have hbp:=hS.bt;have jk:=hS.bl;have ns:=hS.l0;have Em:=hbp.at zk;have En:=hbq.at Jn;generalize Lv:rp.getD c 0=pv at *;generalize hfv:rq.getD c 0=fv at *;generalize og:comb pv fv l rq rp=cb at *;have Jb:cb.take c++rq.drop c=rq:=Aos (by omega) λ j hj=>⟨by rw[hcg,mq j hj,wg j hj,Rat.zero_mul,Rat.zero_mul,Rat.sub_eq_add_neg,Rat.neg_zero,Rat.add_zero,Rat.div_def,Rat.zero_mul],mq j hj⟩
  have Ky:=kI (z:=3) vt;have hRp:=kI (z:=3) ug;have hRn:(B7 3 eQ m2).length=n:=by simp only[B7,List.length_map];omega
  have hRf:(B7 3 eQ m2).set i (some (3,cb.map eQ))=B7 3 eQ (m2.set i cb):=by simp only[B7,List.map_set]
  generalize B7 3 eQ m2=R2 at *;have hR0:R2.set i (some (3,rq.map eQ))=R2:=Oj Ky;(repeat' ((first|(apply A0;omega)|apply AE)<;>conv=>whnf))
  refine lJ hRp ?_;(conv=>whnf)
  (repeat' ((first|(apply A0;omega)|(refine O5 ?_ (λ_=>rfl) (λ v hv => ?_);omega))<;>conv=>whnf))
  cases zk.symm.trans hv;skip
  refine lJ Ky ?_;(conv=>whnf)
  (repeat' ((first|(refine O5 ?_ (λ_=>rfl) (λ v hv => ?_);omega)|fail)<;>conv=>whnf))
  cases Jn.symm.trans hv;skip
  have hp7:=Nat.le_trans (Afc Gd P.length) (Nu hB (show P.length+1<=n by omega));generalize 6^P.length*K0=BB at *;refine B6 (λ j=>WW-j) (λ(j:Nat)=>c<=j/\j<=WW) (λ j=>[(10,.int .i64 j)]) (λ j=>[(231016,231016,.mx (R2.set i (some (3,(cb.take j++rq.drop j).map eQ))))]) [] [] c (by first|exact (by (conv=>whnf);exact ⟨rfl,rfl,rfl⟩)|(rw[Jb,hR0];exact (by (conv=>whnf);exact ⟨rfl,rfl,rfl⟩))) ⟨by omega,by omega⟩ ?_;intro j ⟨k1,k2⟩ jh;have lf:(cb.take j++rq.drop j).length=WW:=by rw[List.length_append,List.length_take,List.length_drop];omega
  by_cases hjn:j<WW
  ·obtain ⟨x,hx⟩ : ∃ x,rq[j]? = some x:=⟨_,zE (by omega)⟩
   obtain ⟨y,hy⟩ : ∃ y,rp[j]? = some y:=⟨_,zE (by omega)⟩;have Bk:cb[j]? = some ((x*pv-y*fv)/l):=by rw[<-og];exact Ajl hx hy
   have hma:=Aoq (a:=cb) (by omega) hx;have Ao:=Aor (b:=rq) (by omega) Bk;have bx:=hbq.at hx;have Ga:=hbp.at hy
   have fj:=FV N.toa5 bx Em (by omega) (by omega);have jd:=FV N.toa5 Ga En (by omega) (by omega)
   have Qe:=rD N.tocp (bx.mul Em) (Ga.mul En) (by omega) (by omega);have Ku:=mN N.toa5 ((bx.mul Em).rn (Ga.mul En)) jk (by omega) (by omega) ns;have Qb:(R2.set i (some (3,(cb.take j++rq.drop j).map eQ)))[P.length]? = some (some (3,rp.map eQ)):=by rw[List.getElem?_set,if_neg (by omega)];exact hRp
   generalize cb.take j++rq.drop j=cm at *;(repeat' ((first|(apply AG<;>intro hc<;>try (exfalso;omega))|(apply A0;omega)|apply AE)<;>conv=>whnf))
   refine cJ rfl (by omega) ?_;(conv=>whnf)
   (repeat' ((first|(refine O5 ?_ (λ_=>rfl) (λ v hv => ?_);omega)|fail)<;>conv=>whnf))
   cases hma.symm.trans hv;(repeat' ((first|(apply A0;omega)|refine AD (fj) ?_)<;>conv=>whnf))
   refine lJ Qb ?_;(conv=>whnf)
   (repeat' ((first|(refine O5 ?_ (λ_=>rfl) (λ v hv => ?_);omega)|fail)<;>conv=>whnf))
   cases hy.symm.trans hv;(repeat' ((first|refine AD (jd) ?_|refine AD (Qe) ?_)<;>conv=>whnf))
   (repeat' ((first|(apply A0;omega)|refine AD (Ku) ?_)<;>conv=>whnf))
   refine cJ rfl (by omega) ?_;(conv=>whnf)
   refine FP (enc:=eQ) ((x*pv-y*fv)/l) rfl (λ_=>rfl) (by omega) ?_;rw[Ao];(conv=>whnf)
   refine jD rfl (by rw[List.length_map,List.length_map,<-Ao,List.length_set]) ?_;(conv=>whnf)
   (repeat' ((first|(apply AX;omega)|fail)<;>conv=>whnf))
   exact BL [] (jh (j+1) (by omega) ⟨by omega,by omega⟩)
  ·have ej:j=WW:=by omega
   clear jh;rw[List.take_of_length_le (by omega),List.drop_of_length_le (by omega),List.append_nil,hRf];(repeat' ((first|(apply AG<;>intro hc<;>try (exfalso;omega))|apply AE)<;>conv=>whnf))
   refine ⟨rfl,_,rfl,?_⟩;(conv=>whnf)
   (repeat' ((first|(apply AX;omega)|fail)<;>conv=>whnf))
   exact BL [] (sh (m2.set i cb) (i+1) (by omega) ⟨Td,by omega,by omega⟩)
 ·have ei:i=n:=by omega
  clear sh;rw[ei]at hS;(repeat' ((first|(apply AG<;>intro hc<;>try (exfalso;omega))|apply AE)<;>conv=>whnf))
  exact B3 [] (by (conv=>whnf);exact ⟨rfl,rfl,rfl⟩) (fk m2 hS)
theorem An1 {a b:List (List Rat)} {n w k:Nat} (gb : ∀ r∈a,r.length=n) (qo : ∀ r∈b,r.length=w) (ij:Ms k a) (fw:Ms k b):(∀ r∈DP a b,r.length=n+w)/\Ms k (DP a b):=by
 constructor
 ·intro r hr
  obtain ⟨i,hi⟩:=List.getElem?_of_mem hr;have eb:=(zS hi).1;simp only[DP,List.length_zipWith]at eb;obtain ⟨x,hx⟩ : ∃ x,a[i]? = some x:=⟨_,zE (by omega)⟩;obtain ⟨y,hy⟩ : ∃ y,b[i]? = some y:=⟨_,zE (by omega)⟩;obtain rfl:=Option.some.inj ((iA hx hy).symm.trans hi);rw[List.length_append,gb x (zM hx),qo y (zM hy)]
 ·intro r hr
  obtain ⟨i,hi⟩:=List.getElem?_of_mem hr;have eb:=(zS hi).1;simp only[DP,List.length_zipWith]at eb;obtain ⟨x,hx⟩ : ∃ x,a[i]? = some x:=⟨_,zE (by omega)⟩;obtain ⟨y,hy⟩ : ∃ y,b[i]? = some y:=⟨_,zE (by omega)⟩;obtain rfl:=Option.some.inj ((iA hx hy).symm.trans hi);intro z hz;rcases List.mem_append.1 hz with hz|hz
  ·exact ij.at hx z hz
  ·exact fw.at hy z hz
theorem Adh (N:u5 L) (q q1 q2 q3:Bool) (a b:List (List Rat)) (n w k K0:Nat) (dh:a.length=n) (gb : ∀ r∈a,r.length=n) (jk:b.length=n) (qo : ∀ r∈b,r.length=w) (hn:1<=n/\n<=52) (hw:1<=w/\w<=52) (Fe:k<=K0) (Gd:1<=K0) (ij:Ms k a) (fw:Ms k b)
  (nw : ∀ r∈DP a b,∀ j,Bt K0 (BF (r.take j))) (Ar:Ms K0 (whole (DP a b)))
  (hB:6^n*K0<=1000000000000) (hC:EO (6^n*K0) n n<=1000000000000) {B0:Nat} (ve:EO (6^n*K0) n n+6^n*K0<=B0) :
  ∃ v,Ev L 235 [.sl q (CZ q1 a),.sl q2 (CZ q3 b)] v/\((¬ NS n a/\v = .m9 [.sl false [],.int .i64 11])\/(NS n a /\ ∃ y:Nat->List Rat,v = .m9 [.sl false (eM (OS y n w)),.int .i64 0] /\
   ∀ c,c<w->(y c).length=n/\Bs B0 (y c) /\ ∀ (i:Nat) (r s:List Rat),a[i]? = some r->b[i]? = some s->AZ r (y c)=s.getD c 0)):=by
 have hI:=HL N.toa5 1 (by omega);have iq:(DP a b).length=n:=by simp [DP,dh,jk]
 have Gq : ∀ r∈DP a b,r.length=n+w:=λ r hr=>by
  obtain ⟨i,hi⟩:=List.getElem?_of_mem hr;have eb:=(zS hi).1;obtain ⟨x,hx⟩ : ∃ x,a[i]? = some x:=⟨_,zE (by omega)⟩;obtain ⟨y,hy⟩ : ∃ y,b[i]? = some y:=⟨_,zE (by omega)⟩;obtain rfl:=Option.some.inj ((iA hx hy).symm.trans hi);rw[List.length_append,gb x (zM hx),qo y (zM hy)]
 have Bp:Ms k (DP a b):=λ r hr=>by
  obtain ⟨i,hi⟩:=List.getElem?_of_mem hr;have eb:=(zS hi).1;obtain ⟨x,hx⟩ : ∃ x,a[i]? = some x:=⟨_,zE (by omega)⟩;obtain ⟨y,hy⟩ : ∃ y,b[i]? = some y:=⟨_,zE (by omega)⟩;obtain rfl:=Option.some.inj ((iA hx hy).symm.trans hi);intro z hz;rcases List.mem_append.1 hz with hz|hz
  ·exact ij.at hx z hz
  ·exact fw.at hy z hz
 refine Ev.xE N.X9 rfl rfl ?_;(repeat' ((first|apply AU|apply AE)<;>conv=>whnf))
 unfold CN;refine ⟨⟨by omega,by omega,by simp only[DX];omega,by omega⟩,?_⟩;rw[Int.toNat_natCast,dh];(conv=>whnf)
 skip
 refine AgM 22 22 n rfl ?_;refine B6 (λ i=>n-i) (λ(i:Nat)=>i<=n) (λ i=>[(25,.int .i64 i)]) (λ i=>[(22,22,.rw 1 ((fz none (((DP a b).take i).map some) n).map wM))]) [] [] 0 (by first|exact (by (conv=>whnf);exact ⟨rfl,rfl,rfl⟩)|(rw[List.take_zero,List.map_nil,show fz (none:Option (List Rat)) [] n=List.replicate n none by simp [fz],List.map_replicate];exact (by (conv=>whnf);exact ⟨rfl,rfl,rfl⟩))) (by omega) ?_;intro i p1 ih;by_cases hi:i<n
 ·obtain ⟨r,du⟩ : ∃ r,a[i]? = some r:=⟨_,zE (by omega)⟩
  obtain ⟨s,sn⟩ : ∃ s,b[i]? = some s:=⟨_,zE (by omega)⟩;have ov:a[(i:Int).toNat]? = some r:=du;have ud:b[(i:Int).toNat]? = some s:=sn;have gm:=gb r (zM du);have Jz:=qo s (zM sn);have hCc:=Alp N true q1 q3 r s (by omega) (by omega) (by omega);have td:(((DP a b).take i).map some).length=i:=by rw[List.length_map,List.length_take];omega
  have ik:=gW (z:=(none:Option (List Rat))) (l:=((DP a b).take i).map some) (m:=n) (by omega);have il:=gX (z:=(none:Option (List Rat))) (x:=some (r++s)) (l:=((DP a b).take i).map some) (m:=n) (by omega);have hta:(DP a b).take (i+1)=(DP a b).take i++[r++s]:=by rw[List.take_add_one,iA du sn];rfl
  rw[td,show ((DP a b).take i).map some++[some (r++s)]=((DP a b).take (i+1)).map some by rw[hta,List.map_append];rfl]at il;generalize fz (none:Option (List Rat)) (((DP a b).take i).map some) n=J at *;(repeat' ((first|(apply AG<;>intro hc<;>try (exfalso;omega))|(apply A0;omega)|(refine BH (by assumption) ?_ rfl ?_;omega)|refine jE rfl rfl ?_|apply AE|refine AD (hCc) ?_)<;>conv=>whnf))
  refine FP (enc:=wM) (some (r++s)) rfl (λ e=>by cases e<;>rfl) (by omega) ?_;(conv=>whnf)
  rw[il];(repeat' ((first|(apply AX;omega)|fail)<;>conv=>whnf))
  exact BL [] (ih (i+1) (by omega) (by omega))
 have ei:i=n:=by omega
 clear ih;rw[ei,List.take_of_length_le (by omega),AmN iq];(repeat' ((first|(apply AG<;>intro hc<;>try (exfalso;omega))|apply AE)<;>conv=>whnf))
 have Ho:K0<=1000000000000:=by simpa using Nu hB (Nat.zero_le n)
 refine FY 1000 N.HN rfl rfl ?_;(repeat' (apply AE<;>conv=>whnf))
 unfold CN;refine ⟨⟨by omega,by omega,by simp only[DX];omega,by omega⟩,?_⟩;rw[Int.toNat_natCast];(conv=>whnf)
 skip
 refine EK (enc:=eO) none n rfl (by omega) (by omega) ?_;(conv=>whnf)
 skip
 refine B3 [] (by (conv=>whnf);exact ⟨rfl,rfl,rfl⟩) (Ap8 N q q1 q2 q3 a b (DP a b) n (n+w) k iq Gq hn (by omega) Bp nw Fe Ho ?_);(repeat' (apply AE<;>conv=>whnf))
 refine ⟨rfl,_,rfl,?_⟩;(conv=>whnf)
 skip
 have Qh:n+w<=104:=by omega
 have hW:n<=n+w:=by omega
 have wx:(whole (DP a b)).length=n:=by simp only[whole,List.length_map];exact iq
 have Fh:=Mj Gq;have Fg:=Ar;have yz:=AqP (DP a b);have Rt:a.length=b.length:=by omega
 clear Bp Gq ij fw Ho ei hi p1 i nw Ar Fe;generalize whole (DP a b)=m0 at wx Fh Fg yz ⊢;refine FC 1000 N.U2 rfl rfl ?_;(repeat' ((first|apply AE|refine AD (hI) ?_)<;>conv=>whnf))
 refine AgJ (λ_ P _ _ _=>n-P.length) (λ(m:List (List Rat)) (P:List Nat) (c:Nat) (odd:Bool) (l:Rat)=>HB m0 K0 (n+w) n m P c odd l) (λ_ P c odd _=>[(7,.int .i64 (P.length:Nat)),(8,.int .i64 c),(9,.bool odd)]) (λ m _ _ _ l=>[(231016,231016,.mx (B7 3 eQ m)),(233010,233010,.bx (eQ l))]) [] [] m0 [] 0 false ((1:Int):Rat) (by (conv=>whnf);exact ⟨rfl,rfl,rfl⟩) (HB.start Fh Fg) ?_;intro m P c odd l hE eh;have lf:=hE.len;have Pv:=hE.gp.pl;rw[wx]at lf;by_cases hP:P.length<n
 ·have hp6:=Nu hB (show P.length<=n by omega)
  (repeat' ((first|(apply AG<;>intro hc<;>try (exfalso;omega))|apply AE)<;>conv=>whnf))
  refine AgL (l:=[_,_]) (λ(m1:List (List Rat)) (c:Nat) (o:Bool)=>HB m0 K0 (n+w) n m1 P c o l/\(c<n -> ∃ rp,m1[P.length]? = some rp/\rp.getD c 0≠0)) (λ_ c o=>[(8,.int .i64 c),(9,.bool o)]) (λ m1 _ _=>[(231016,231016,.mx (B7 3 eQ m1))]) [17] rfl ?_ ?_
  ·clear hE lf Pv
   intro m1 c AGB ⟨hE,Lv⟩;have lf:=hE.len;have Pv:=hE.gp.pl;have bq:=hE.cc;rw[wx]at lf;by_cases Cv:c<n
   ·obtain ⟨rp,Jk,hpn⟩:=Lv Cv
    clear Lv;have hS:=hE.swp Cv Jk hpn;(repeat' ((first|(apply AG<;>intro hc<;>try (exfalso;omega))|(apply AX;omega)|apply AE)<;>conv=>whnf))
    refine B3 [] (by (conv=>whnf);exact ⟨rfl,rfl,rfl⟩) (Ap7 N q2 q3 b (DP a b) ((DP a b).map BF) wx hn hW Qh Gd hB hP Cv hS λ m2 hS => ?_);have ug:=hS.ht;have AF3:=hS.gp.lr rp (zM ug);have zk:rp[c]? = some (rp.getD c 0):=eK (by omega);have Jc:=hS.len;have fk:=hS.done Gd (by omega);have Hs:(P++[c]).length=P.length+1:=by simp
    generalize rp.getD c 0=pv at zk fk;clear hS hE hpn Jk;(repeat' ((first|(apply A0;omega)|(refine bI ?_ (λ r hr => ?_);omega)|apply AE)<;>conv=>whnf))
    cases ug.symm.trans hr;refine A0 (by rw[List.length_map];omega) ?_;(conv=>whnf)
    (repeat' ((first|(apply AX;omega)|(refine O5 ?_ (λ_=>rfl) (λ v hv => ?_);omega)|refine dR (by assumption) ?_)<;>conv=>whnf))
    cases zk.symm.trans hv;skip
    rw[show ((P.length:Nat):Int)+1=((P++[c]).length:Nat) by rw[Hs];omega];exact B3 [] (by (conv=>whnf);exact ⟨rfl,rfl,rfl⟩) (eh m2 (P++[c]) (c+1) _ pv (by rw[Hs];omega) fk)
   ·clear eh Lv
    (repeat' ((first|(apply AG<;>intro hc<;>try (exfalso;omega))|apply AE)<;>conv=>whnf))
    refine ⟨rfl,?_⟩;(conv=>whnf)
    (repeat' ((first|(apply AG<;>intro hc<;>try (exfalso;omega))|fail)<;>conv=>whnf))
    have nf:n<=c\/n<=P.length:=Or.inl (by omega);have Gu:=Yp (w:=w) hE yz Rt gb dh nf;skip
    refine ⟨.m9 [.sl false [],.int .i64 11],?_,Or.inl ⟨λ h=>absurd (Gu.2 h) (by omega),rfl⟩⟩;(conv=>whnf)
    exact AY rfl (PM [] 11)
  ·clear eh
   intro zd;refine B6 (λ c=>n-c) (λ(c:Nat)=>HB m0 K0 (n+w) n m P c odd l) (λ c=>[(8,.int .i64 c)]) (λ_=>[]) [17] [] c (by (conv=>whnf);exact ⟨rfl,rfl,rfl⟩) hE ?_;clear hE;intro c hE ch;have bq:=hE.cc;by_cases Cv:c<n
   ·(repeat' ((first|(apply AG<;>intro hc<;>try (exfalso;omega))|apply AE)<;>conv=>whnf))
    refine B6 (λ i=>n-i) (λ(i:Nat)=>P.length<=i/\i<=n /\ ∀ (q:Nat) (r:List Rat),P.length<=q->q<i->m[q]? = some r->r.getD c 0=0) (λ i=>[(11,.int .i64 i)]) (λ_=>[]) [] [] P.length (by (conv=>whnf);exact ⟨rfl,rfl,rfl⟩) ⟨Nat.le_refl _,by omega,λ q r h1 h2=>absurd h1 (by omega)⟩ ?_;intro i ⟨i1,i2,i3⟩ ih;by_cases hi:i<n
    ·obtain ⟨rp,du⟩ : ∃ r,m[i]? = some r:=⟨_,zE (by omega)⟩
     have gm:=hE.gp.lr rp (zM du);have Fm:rp[c]? = some (rp.getD c 0):=eK (by omega);have hSg:=mQ N.toa5 (hE.ms.at du _ (zM Fm)) (by omega);have hz:=fK (x:=rp.getD c 0);generalize Bx:rp.getD c 0=rc at *;generalize dp rc.num=sg at *;by_cases Fp:sg=0
     ·(repeat' ((first|(apply AG<;>intro hc<;>try (exfalso;omega))|(apply A0;omega)|(refine bI ?_ (λ r hr => ?_);omega)|apply AE)<;>conv=>whnf))
      cases du.symm.trans hr;refine A0 (by rw[List.length_map];omega) ?_;(conv=>whnf)
      (repeat' ((first|(refine O5 ?_ (λ_=>rfl) (λ v hv => ?_);omega)|refine dR (by assumption) ?_)<;>conv=>whnf))
      cases Fm.symm.trans hv;(repeat' ((first|(apply AG<;>intro hc<;>try (exfalso;omega))|(apply AX;omega)|refine AD (hSg) ?_)<;>conv=>whnf))
      refine B3 [] (by (conv=>whnf);exact ⟨rfl,rfl,rfl⟩) (ih (i+1) (by omega) ⟨by omega,by omega,λ q x h1 h2 hx => ?_⟩);by_cases e:q=i
      ·subst e
       cases du.symm.trans hx;rw[Bx];exact hz.1 Fp
      ·exact i3 q x h1 (by omega) hx
     ·clear ih ch
      have hnz:rc≠0:=λ e=>Fp (hz.2 e)
      (repeat' ((first|(apply AG<;>intro hc<;>try (exfalso;omega))|(apply A0;omega)|(refine bI ?_ (λ r hr => ?_);omega)|apply AE)<;>conv=>whnf))
      cases du.symm.trans hr;refine A0 (by rw[List.length_map];omega) ?_;(conv=>whnf)
      (repeat' ((first|(refine O5 ?_ (λ_=>rfl) (λ v hv => ?_);omega)|refine dR (by assumption) ?_)<;>conv=>whnf))
      cases Fm.symm.trans hv;(repeat' ((first|(apply AG<;>intro hc<;>try (exfalso;omega))|(apply A0;omega)|(refine bI ?_ (λ r hr => ?_);omega)|refine dR (by assumption) ?_|refine AD (hSg) ?_)<;>conv=>whnf))
      ·obtain ⟨t,Lx⟩ : ∃ t,m[P.length]? = some t:=⟨_,zE (by omega)⟩
       refine A0 ⟨rfl,by simp only[B7,List.length_map];omega⟩ ?_;(conv=>whnf)
       (repeat' ((first|(apply A0;omega)|refine dR (by assumption) ?_)<;>conv=>whnf))
       rw[show 0+((i:Nat):Int).toNat=i by omega,show 0+((P.length:Nat):Int).toNat=P.length by omega];refine A0 ⟨rfl,by simp only[B7,List.length_map,List.length_set,List.length_range];omega,AqH (by simp only[B7,List.length_map];omega)⟩ ?_;(conv=>whnf)
       skip
       have xq:=hE.swap du Lx i1 (Nat.le_refl _) (by omega);have wo:c<n -> ∃ rp',((m.set i t).set P.length rp)[P.length]? = some rp'/\rp'.getD c 0≠0:=λ_=>⟨rp,by rw[List.getElem?_set,if_pos rfl,if_pos (by rw[List.length_set];omega)],by rw[Bx];exact hnz⟩
       generalize hob:(!odd)=ob at *;cases ob;all_goals
        (conv=>whnf)
        skip
        refine oU.go ?_;refine AgN (k:=231016) (i:=i) (j:=P.length) rfl (kI du) (kI Lx) rfl rfl ?_;rw[AoI];exact B3 [] (by (conv=>whnf);exact ⟨rfl,rfl,rfl⟩) (zd _ c _ ⟨xq,wo⟩)
      ·have ei:i=P.length:=by omega
       exact oU.go (B3 [] (by (conv=>whnf);exact ⟨rfl,rfl,rfl⟩) (zd m c odd ⟨hE,λ_=>⟨rp,by rw[<-ei];exact du,by rw[Bx];exact hnz⟩⟩))
    ·have ei:i=n:=by omega
     clear ih;(repeat' ((first|(apply AG<;>intro hc<;>try (exfalso;omega))|(apply AX;omega)|apply AE)<;>conv=>whnf))
     exact BL [] (ch (c+1) (by omega) (hE.skip Cv λ q x h1 hx=>i3 q x h1 (by have:=(zS hx).1;omega) hx))
   ·clear ch
    (repeat' ((first|(apply AG<;>intro hc<;>try (exfalso;omega))|apply AE)<;>conv=>whnf))
    exact oU.go (B3 [] (by (conv=>whnf);exact ⟨rfl,rfl,rfl⟩) (zd m c odd ⟨hE,λ h=>absurd h Cv⟩))
 ·clear eh
  (repeat' ((first|(apply AG<;>intro hc<;>try (exfalso;omega))|apply AE)<;>conv=>whnf))
  refine ⟨rfl,?_⟩;(conv=>whnf)
  (repeat' ((first|(apply AG<;>intro hc<;>try (exfalso;omega))|fail)<;>conv=>whnf))
  have nf:n<=c\/n<=P.length:=Or.inr (by omega);have Gu:=Yp (w:=w) hE yz Rt gb dh nf;have Kw:P.length=n:=by have:=hE.gp.le;have:=hE.gp.pl;omega
  have fr:=Gu.1 Kw;have Rj:=Ap5 hE yz Rt gb qo Kw lf;have Tw:=Af1 hE Kw lf;have hmw:=hE.gp.lr;have Ao:=hE.ms;have wu:=hE.bl;have ns:=hE.l0;rw[Kw]at Ao wu;clear hE Gu Pv Fg Fh yz;have Lk : ∀ (e:Nat) (r:List Rat),m[e]? = some r->r.getD e 0≠0:=λ e r hr=>by
   rw[<-OG hr];exact (Tw e (by have:=(zS hr).1;omega)).1
  skip
  unfold CN;refine ⟨⟨by omega,by omega,by simp only[DX];omega,by omega⟩,?_⟩;rw[Int.toNat_natCast];(conv=>whnf)
  skip
  refine B6 (λ u=>n-u) (λ(u:Nat)=>u<=n) (λ u=>[(61,.int .i64 u)]) (λ u=>[(58,58,.mx (List.replicate u (some (3,(DH [] w).map eO))++List.replicate (n-u) none))]) [] [] 0 (by (conv=>whnf);exact ⟨rfl,rfl,rfl⟩) (by omega) ?_;intro u r1 uh;by_cases hu:u<n
  ·obtain ⟨s,sn⟩ : ∃ s,b[u]? = some s:=⟨_,zE (by omega)⟩
   have ud:b[(u:Int).toNat]? = some s:=sn;have Jz:=qo s (zM sn);(repeat' ((first|(apply AG<;>intro hc<;>try (exfalso;omega))|apply AU|(refine BH (by assumption) ?_ rfl ?_;omega)|apply AE)<;>conv=>whnf))
   rw[Jz];refine EK (enc:=eO) none w rfl rfl (by omega) ?_;(conv=>whnf)
   (repeat' ((first|(apply A0;omega)|fail)<;>conv=>whnf))
   unfold AM CF;refine ⟨by simp,by simp;omega,?_⟩;(conv=>whnf)
   rw[show 0+((u:Int)).toNat=u by omega,<-OQ,AmK _ _ r1 hu];(repeat' ((first|(apply AX;omega)|fail)<;>conv=>whnf))
   exact BL [] (uh (u+1) (by omega) (by omega))
  have eu:u=n:=by omega
  subst eu;clear uh;obtain ⟨y,hy⟩ : ∃ y:Nat->List Rat,y=λ c'=>(E1 (u+c') l m 0).map (· / l):=⟨_,rfl⟩
  have zu : ∀ c',(y c').length=u:=λ c'=>by rw[hy,List.length_map,cP];exact lf
  have wm:(OS y u w).length=u:=by simp [OS]
  have Bd : ∀ e,e<u->(OS y u w)[e]? = some ((List.range w).map λ c'=>(y c').getD e 0):=λ e he=>by simp [OS,he]
  have hRw : ∀ r∈OS y u w,r.length=w:=λ r hr=>by
   obtain ⟨i,_,rfl⟩:=List.mem_map.1 hr;simp
  rw[show List.replicate u (some (3,List.map eO (DH [] w)))++List.replicate (u-u) none=B7 3 eO (ot (OS y u w) w 0 0) by rw[Ao0,wm];simp [B7]];obtain ⟨s0,sn⟩ : ∃ s,b[0]? = some s:=⟨_,zE (by omega)⟩;have AF4:b[(0:Int).toNat]? = some s0:=sn;have Sw:=qo s0 (zM sn);generalize hRg:OS y u w=R at wm Bd hRw ⊢;(repeat' ((first|(apply AG<;>intro hc<;>try (exfalso;omega))|apply AU|(refine BH (by assumption) ?_ rfl ?_;omega)|apply AE)<;>conv=>whnf))
  rw[Sw];refine B6 (λ c=>w-c) (λ(c:Nat)=>c<=w) (λ c=>[(78,.int .i64 c)]) (λ c=>[(58,58,.mx (B7 3 eO (ot R w c 0)))]) [] [] 0 (by (conv=>whnf);exact ⟨rfl,rfl,rfl⟩) (by omega) ?_;intro c' r2 ch;by_cases vi:c'<w
  ·have Eb:=AlE N true true m u (u+w) (u+c') (6^u*K0) l lf hmw (by omega) (by omega) (by omega) (by omega) Lk Ao wu (by omega)
   have Bi:=pY (c:=u+c') (n:=u) wu m 0 (by omega) Ao;have Hb:=cP (u+c') l m 0;have hyc : ∀ (e:Nat) (x:Rat),(E1 (u+c') l m 0)[e]? = some x->(y c').getD e 0=x/l:=λ e x hx=>by
    rw[hy,List.getD_eq_getElem?_getD,List.getElem?_map,hx];rfl
   rw[lf]at Bi Hb;rw[Int.natCast_add]at Eb;generalize E1 (u+c') l m 0=xs at Eb Bi Hb hyc;(repeat' ((first|(apply AG<;>intro hc<;>try (exfalso;omega))|(apply AX;omega)|apply AE)<;>conv=>whnf))
   refine UN (λ_=>rfl) rfl (by omega) ?_;(conv=>whnf)
   (repeat' ((first|apply AU|refine AD (Eb) ?_)<;>conv=>whnf))
   refine B6 (λ f=>u-f) (λ(f:Nat)=>f<=u) (λ f=>[(88,.int .i64 f)]) (λ f=>[(58,58,.mx (B7 3 eO (ot R w c' f)))]) [] [] 0 (by (conv=>whnf);exact ⟨rfl,rfl,rfl⟩) (by omega) ?_;intro f r5 fh;by_cases hf2:f<u
   ·obtain ⟨x,hx⟩ : ∃ x,xs[f]? = some x:=⟨_,zE (by omega)⟩
    have nq:xs[(f:Int).toNat]? = some x:=hx;have bx:=Bi.at hx;have hD:=mN N.toa5 bx wu (by omega) (by omega) ns;have Pw:=Bd f hf2;have hmc:((List.range w).map λ c'=>(y c').getD f 0)[c']? = some (x/l):=by rw[List.getElem?_map,List.getElem?_range vi,Option.map_some,hyc f x hx]
    have Rz:((List.range w).map λ c'=>(y c').getD f 0).length=w:=by simp
    generalize ((List.range w).map λ c'=>(y c').getD f 0)=row at Pw hmc Rz;have hoa:=sH (n:=w) (j:=c') (i:=f) Pw;rw[if_neg (by omega)]at hoa;have hos:=AoZ (n:=w) (j:=c') Pw;have Lu:=nP R w c' f;have Db:=J3 (l:=row.take c') (m:=w) (by rw[List.length_take];omega);have o9:=OR (l:=row.take c') (m:=w) (x:=x/l) (by rw[List.length_take];omega);rw[List.length_take,Nat.min_eq_left (by omega),<-SZ hmc]at o9;generalize ot R w c' f=O at *;(repeat' ((first|(apply AG<;>intro hc<;>try (exfalso;omega))|(apply A0;omega)|(refine BH (by assumption) ?_ rfl ?_;omega)|(refine bI ?_ (λ r hr => ?_);omega)|apply AE|refine AD (hD) ?_)<;>conv=>whnf))
    cases hoa.symm.trans hr;skip
    have AFK:=J3 (l:=row.take (c'+1)) (m:=w) (by rw[List.length_take];omega);refine A0 (by rw[List.length_map];omega) ?_;(conv=>whnf)
    (repeat' ((first|refine dR (by assumption) ?_|fail)<;>conv=>whnf))
    refine FP (enc:=eO) (some (x/l)) rfl (λ e=>by cases e<;>rfl) (by omega) ?_;(conv=>whnf)
    rw[o9];refine uI (by omega) ?_;rw[hos];(conv=>whnf)
    (repeat' ((first|(apply AX;omega)|fail)<;>conv=>whnf))
    exact BL [] (fh (f+1) (by omega) (by omega))
   have ef:f=u:=by omega
   clear fh;have zj:=AoY R w c';rw[wm]at zj;rw[ef,zj];(repeat' ((first|(apply AG<;>intro hc<;>try (exfalso;omega))|(apply AX;omega)|apply AE)<;>conv=>whnf))
   exact BL [] (ch (c'+1) (by omega) (by omega))
  have ec:c'=w:=by omega
  clear ch;rw[ec,AoX hRw];(repeat' ((first|(apply AG<;>intro hc<;>try (exfalso;omega))|apply AE)<;>conv=>whnf))
  refine ⟨.m9 [.sl false (eM R),.int .i64 0],?_,Or.inr ⟨fr,y,by rw[<-hRg],λ c2 vi=>⟨zu c2,?_,λ i r s h1 h2=>by rw[hy];exact Rj c2 vi i r s h1 h2⟩⟩⟩
  ·(conv=>whnf)
   refine UN (λ_=>rfl) rfl (by omega) ?_;(conv=>whnf)
   exact AY rfl (PM R 0)
  ·rw[hy]
   intro z hz;obtain ⟨x,hx,rfl⟩:=List.mem_map.1 hz;have Bi:=pY (c:=u+c2) (n:=u) wu m 0 (by omega) Ao;rw[lf]at Bi;exact ((Bi x hx).nr wu).le (by omega)
theorem AmB (N:u5 L) (q q1 q2 q3:Bool) (a b:List (List Rat)) (n w k:Nat) (dh:a.length=n) (gb : ∀ r∈a,r.length=n) (jk:b.length=n) (qo : ∀ r∈b,r.length=w) (hn:1<=n/\n<=52) (hw:1<=w/\w<=52) (hk:1<=k) (ij:Ms k a) (fw:Ms k b)
  (hB:6^n*(3^(n+w)*k)<=1000000000000) (hC:EO (6^n*(3^(n+w)*k)) n n<=1000000000000) {B0:Nat} (ve:EO (6^n*(3^(n+w)*k)) n n+6^n*(3^(n+w)*k)<=B0) :
  ∃ v,Ev L 235 [.sl q (CZ q1 a),.sl q2 (CZ q3 b)] v/\((¬ NS n a/\v = .m9 [.sl false [],.int .i64 11])\/(NS n a /\ ∃ y:Nat->List Rat,v = .m9 [.sl false (eM (OS y n w)),.int .i64 0] /\
   ∀ c,c<w->(y c).length=n/\Bs B0 (y c) /\ ∀ (i:Nat) (r s:List Rat),a[i]? = some r->b[i]? = some s->AZ r (y c)=s.getD c 0)):=by
 obtain ⟨Gq,Bp⟩:=An1 gb qo ij fw;exact Adh N q q1 q2 q3 a b n w k (3^(n+w)*k) dh gb jk qo hn hw (Nq k (n+w)) (Nat.mul_pos (Nat.pow_pos (by omega)) hk) ij fw (Ml hk Gq Bp) (Mk hk Gq Bp) hB hC ve
theorem AoT {x:Rat} {b:List Rat} {i:Nat} (h:b[i]? = some x):(b.map λ x=>[x])[i]? = some [x]:=by rw[List.getElem?_map,h];rfl
theorem Ai3 (y:List Rat) (e:Int):A6 (.m9 [.sl false (y.map eQ),.int .i64 e]):=by
 simp only[A6,CW,and_true,true_and];exact OK y
def GQ (x:Rat):Option (Nat × List (List AV)):=some (3,[eQ x])
theorem AlA (N:u5 L) (q q1 q2:Bool) (a:List (List Rat)) (b:List Rat) (n k K0:Nat) (dh:a.length=n) (gb : ∀ r∈a,r.length=n) (jk:b.length=n) (hn:1<=n/\n<=52) (Fe:k<=K0) (Gd:1<=K0) (ij:Ms k a) (fw:Bs k b)
  (nw : ∀ r∈DP a (b.map λ x=>[x]),∀ j,Bt K0 (BF (r.take j))) (Ar:Ms K0 (whole (DP a (b.map λ x=>[x]))))
  (hB:6^n*K0<=1000000000000) (hC:EO (6^n*K0) n n<=1000000000000) {B0:Nat} (ve:EO (6^n*K0) n n+6^n*K0<=B0) :
  ∃ v,Ev L 237 [.sl q (CZ q1 a),.sl q2 (b.map eQ)] v/\((¬ NS n a/\v = .m9 [.sl false [],.int .i64 11])\/(NS n a /\ ∃ y:List Rat,v = .m9 [.sl false (y.map eQ),.int .i64 0] /\
   y.length=n/\Bs B0 y /\ ∀ (i:Nat) (r:List Rat) (s:Rat),a[i]? = some r->b[i]? = some s->AZ r y=s)):=by
 have hV:=rB N q q1 a n n dh gb hn hn;obtain ⟨r0,du⟩ : ∃ r,a[0]? = some r:=⟨_,zE (by omega)⟩;have Bw:a[(0:Int).toNat]? = some r0:=du;have ns:=gb r0 (zM du);obtain ⟨v,hS,fx⟩:=Adh N q q1 true true a (b.map λ x=>[x]) n 1 k K0 dh gb (by rw[List.length_map];exact jk) (λ r hr=>by obtain ⟨x,_,rfl⟩:=List.mem_map.1 hr;rfl) hn (by omega) Fe Gd ij (λ r hr=>by
  obtain ⟨x,hx,rfl⟩:=List.mem_map.1 hr;intro z hz;obtain rfl:=List.mem_singleton.1 hz;exact fw z hx) nw Ar hB hC ve
 refine Ev.xE N.X5 rfl rfl ?_;(repeat' ((first|(apply AG<;>intro hc<;>try (exfalso;omega))|apply AU|(refine BH (by assumption) ?_ rfl ?_;omega)|apply AE|refine AD (hV) ?_)<;>conv=>whnf))
 unfold CN;refine ⟨⟨by omega,by omega,by simp only[DX];omega,by omega⟩,?_⟩;rw[Int.toNat_natCast,jk];(conv=>whnf)
 (repeat' (apply AU<;>conv=>whnf))
 refine B6 (λ i=>n-i) (λ(i:Nat)=>i<=n) (λ i=>[(35,.int .i64 i)]) (λ i=>[(32,32,.mx (fz none ((b.take i).map GQ) n))]) [] [] 0 (by first|exact (by (conv=>whnf);exact ⟨rfl,rfl,rfl⟩)|(rw[List.take_zero,List.map_nil,show fz (none:Option (Nat × List (List AV))) [] n=List.replicate n none by simp [fz]];exact (by (conv=>whnf);exact ⟨rfl,rfl,rfl⟩))) (by omega) ?_;intro i p1 ih;have ik:=gW (z:=(none:Option (Nat × List (List AV)))) (l:=(b.take i).map GQ) (m:=n) (by rw[List.length_map,List.length_take];omega);by_cases hi:i<n
 ·obtain ⟨x,hx⟩ : ∃ x,b[i]? = some x:=⟨_,zE (by omega)⟩
  have nq:b[(i:Int).toNat]? = some x:=hx;have il:=gX (z:=(none:Option (Nat × List (List AV)))) (x:=GQ x) (l:=(b.take i).map GQ) (m:=n) (by rw[List.length_map,List.length_take];omega);rw[List.length_map,List.length_take,Nat.min_eq_left (by omega),show (b.take i).map GQ++[GQ x]=(b.take (i+1)).map GQ by rw[List.take_add_one,hx,List.map_append];rfl]at il;generalize fz (none:Option (Nat × List (List AV))) ((b.take i).map GQ) n=J at *;have Ez:J.set i (some (3,[[AV.bool (decide (x.num<0)),AV.sl false ((dg x.num.natAbs).map AL),AV.sl false ((dg x.den).map AL)]]))=fz none ((b.take (i+1)).map GQ) n:=il;(repeat' ((first|(apply AG<;>intro hc<;>try (exfalso;omega))|(apply A0;omega)|(refine BH (by assumption) ?_ rfl ?_;omega)|apply AE)<;>conv=>whnf))
  unfold AM CF;refine ⟨by simp,by omega,?_⟩;(conv=>whnf)
  rw[show 0+((i:Int)).toNat=i by omega,Ez];(repeat' ((first|(apply AX;omega)|fail)<;>conv=>whnf))
  exact BL [] (ih (i+1) (by omega) (by omega))
 have ei:i=n:=by omega
 clear ih ik;rw[ei,List.take_of_length_le (by omega),gV (by rw[List.length_map];exact jk),show b.map GQ=B7 3 eQ (b.map λ x=>[x]) by rw[B7,List.map_map];rfl];(repeat' ((first|(apply AG<;>intro hc<;>try (exfalso;omega))|(refine UN (λ_=>rfl) rfl ?_ ?_;(first|rfl|simp))|apply AE)<;>conv=>whnf))
 ·exact jk.symm
 (conv=>whnf)
 rcases fx with ⟨fr,rfl⟩|⟨fr,y,rfl,hy⟩
 ·(repeat' ((first|(apply AG<;>intro hc<;>try (exfalso;omega))|refine AD (hS) ?_)<;>conv=>whnf))
  refine ⟨.m9 [.sl false [],.int .i64 11],?_,Or.inl ⟨fr,rfl⟩⟩;(conv=>whnf)
  exact AY rfl (PM [] 11)
 ·obtain ⟨zu,Dr,zw⟩:=hy 0 (by omega)
  have Bd : ∀ e,e<n->(OS y n 1)[e]? = some [(y 0).getD e 0]:=λ e he=>by simp [OS,he]
  have wm:(OS y n 1).length=n:=by simp [OS]
  generalize OS y n 1=R at *;(repeat' ((first|(apply AG<;>intro hc<;>try (exfalso;omega))|apply AU|refine AD (hS) ?_)<;>conv=>whnf))
  rw[wm];refine EK (enc:=eO) none n rfl rfl (by omega) ?_;(conv=>whnf)
  (repeat' (apply AU<;>conv=>whnf))
  refine B6 (λ e=>n-e) (λ(e:Nat)=>e<=n) (λ e=>[(60,.int .i64 e)]) (λ e=>[(57,57,.rw 3 ((DH ((y 0).take e) n).map eO))]) [] [] 0 (by first|exact (by (conv=>whnf);exact ⟨rfl,rfl,rfl⟩)|(rw[List.take_zero,<-OQ];exact (by (conv=>whnf);exact ⟨rfl,rfl,rfl⟩))) (by omega) ?_;intro e p2 eh;have Db:=J3 (l:=(y 0).take e) (m:=n) (by rw[List.length_take];omega);by_cases he2:e<n
  ·obtain ⟨x,hx⟩ : ∃ x,(y 0)[e]? = some x:=⟨_,zE (by omega)⟩
   have o9:=OR (l:=(y 0).take e) (m:=n) (x:=x) (by rw[List.length_take];omega);rw[List.length_take,Nat.min_eq_left (by omega),<-SZ hx]at o9;have Kx:=Bd e he2;rw[show (y 0).getD e 0=x by rw[List.getD_eq_getElem?_getD,hx];rfl]at Kx;have Qa:R[(e:Int).toNat]? = some [x]:=Kx;have xj:[x][(0:Int).toNat]? = some x:=rfl;generalize DH ((y 0).take e) n=F0 at *;(repeat' ((first|(apply AG<;>intro hc<;>try (exfalso;omega))|(apply A0;omega)|(refine BH (by assumption) ?_ rfl ?_;omega)|apply AE)<;>conv=>whnf))
   refine FP (enc:=eO) (some x) rfl (λ e=>by cases e<;>rfl) (by omega) ?_;(conv=>whnf)
   rw[o9];(repeat' ((first|(apply AX;omega)|fail)<;>conv=>whnf))
   exact BL [] (eh (e+1) (by omega) (by omega))
  have ee:e=n:=by omega
  clear eh;rw[ee,List.take_of_length_le (by omega),OO zu];(repeat' ((first|(apply AG<;>intro hc<;>try (exfalso;omega))|apply AE)<;>conv=>whnf))
  refine ⟨.m9 [.sl false ((y 0).map eQ),.int .i64 0],?_,Or.inr ⟨fr,y 0,rfl,zu,Dr,λ i r s h1 h2 => ?_⟩⟩
  ·(conv=>whnf)
   refine DR (enc:=eQ) (λ_=>rfl) rfl zu.symm ?_;(conv=>whnf)
   exact AY rfl (Ai3 (y 0) 0)
  ·exact zw i r [s] h1 (AoT h2)
theorem Alt (N:u5 L) (q q1:Bool) (a:List (List Rat)) (n k:Nat) (dh:a.length=n) (gb : ∀ r∈a,r.length=n) (hn:1<=n/\n<=52) (hk:1<=k) (ij:Ms k a)
  (hB:6^n*(3^(n+n)*k)<=1000000000000) (hC:EO (6^n*(3^(n+n)*k)) n n<=1000000000000) {B0:Nat} (ve:EO (6^n*(3^(n+n)*k)) n n+6^n*(3^(n+n)*k)<=B0) :
  ∃ v,Ev L 238 [.sl q (CZ q1 a)] v/\((¬ NS n a/\v = .m9 [.sl false [],.int .i64 11])\/(NS n a /\ ∃ w:List (List Rat),v = .m9 [.sl false (eM w),.int .i64 0] /\
   w.length=n/\(∀ r∈w,r.length=n)/\Ms B0 w/\C1 a w n=FL n/\C1 w a n=FL n)):=by
 have hV:=rB N q q1 a n n dh gb hn hn;have hI:=AlP N n hn;obtain ⟨r0,du⟩ : ∃ r,a[0]? = some r:=⟨_,zE (by omega)⟩;have Bw:a[(0:Int).toNat]? = some r0:=du;have ns:=gb r0 (zM du);have Rp:(FL n).length=n:=by simp [FL]
 have Rq : ∀ r∈FL n,r.length=n:=(Sq.id n).r;have Ro:Ms k (FL n):=λ r hr=>by
  obtain ⟨i,_,rfl⟩:=List.mem_map.1 hr;intro z hz;obtain ⟨j,_,rfl⟩:=List.mem_map.1 hz;by_cases e:((j:Nat):Int)=(i:Int)
  ·rw[if_pos e];exact (Bt.one 0).le (Nat.zero_le k)
  ·first|(rw[if_neg e];exact Bt.zero _)|(rw[if_neg (Ne.symm e)];exact Bt.zero _)
 obtain ⟨v,hS,fx⟩:=AmB N q q1 false false a (FL n) n n k dh gb Rp Rq hn hn hk ij Ro hB hC ve;refine ⟨v,?_,?_⟩
 ·have z7:A6 v:=by
   rcases fx with ⟨_,rfl⟩|⟨_,y,rfl,_⟩
   ·exact PM [] 11
   ·exact PM _ 0
  refine Ev.x N.X4 rfl rfl ?_;rcases fx with ⟨_,rfl⟩|⟨_,y,rfl,_⟩
  ·(repeat' ((first|(apply AG<;>intro hc<;>try (exfalso;omega))|apply AU|(refine BH (by assumption) ?_ rfl ?_;omega)|apply AE|refine AD (hV) ?_)<;>conv=>whnf))
   rw[dh];(repeat' ((first|refine AD (hI) ?_|refine AD (hS) ?_)<;>conv=>whnf))
   exact AY rfl z7
  ·(repeat' ((first|(apply AG<;>intro hc<;>try (exfalso;omega))|apply AU|(refine BH (by assumption) ?_ rfl ?_;omega)|apply AE|refine AD (hV) ?_)<;>conv=>whnf))
   rw[dh];(repeat' ((first|refine AD (hI) ?_|refine AD (hS) ?_)<;>conv=>whnf))
   exact AY rfl z7
 ·rcases fx with ⟨fr,rfl⟩|⟨fr,y,rfl,hy⟩
  ·exact Or.inl ⟨fr,rfl⟩
  ·have Ka:C1 a (eU y n) n=FL n:=AnP dh (λ c hc=>(hy c hc).1) λ c i r hc hr=>by
    obtain ⟨s,hs⟩ : ∃ s,(FL n)[i]? = some s:=⟨_,zE (by have:=(zS hr).1;omega)⟩;rw[(hy c hc).2.2 i r s hr hs];have Lo:i<n:=by have:=(zS hr).1;omega
    obtain rfl:EZ n i=s:=by simpa [FL,Lo] using hs
    rw[Nl,if_pos hc]
   have z7:(eU y n).length=n:=by simp [eU]
   have Lj : ∀ r∈eU y n,r.length=n:=λ r hr=>by
    obtain ⟨i,_,rfl⟩:=List.mem_map.1 hr;simp
   refine Or.inr ⟨fr,eU y n,rfl,z7,Lj,λ r hr z hz => ?_,Ka,AnI ⟨dh,gb⟩ ⟨z7,Lj⟩ fr Ka⟩;obtain ⟨i,hi,rfl⟩:=List.mem_map.1 hr;obtain ⟨c,hc,rfl⟩:=List.mem_map.1 hz;have:=(hy c (List.mem_range.1 hc)).2.1
   have hl:=(hy c (List.mem_range.1 hc)).1;exact this.at (eK (by rw[hl];exact List.mem_range.1 hi))
end Go.e9

namespace Go.e9
structure Pt where
 x:Rat
 y:Rat
 w:Rat
def Aqk (g:List Pt) (f:Pt->Rat):Rat:=g.foldl (λ s p=>s+f p) 0
def rhs (g:List Pt) (k:Nat):Rat:=Aqk g λ p=>p.w*p.x^k*p.y
def Wh (k:Nat) (x:Rat):Prop := ∃ z:Int,x=(z:Rat)/\z.natAbs<=2^k
theorem Wh.le {k l:Nat} {x:Rat} (h:Wh k x) (hl:k<=l):Wh l x:=by
 obtain ⟨z,e,b⟩:=h;exact ⟨z,e,Nat.le_trans b (Nat.pow_le_pow_right (by omega) hl)⟩
theorem Wh.mul {k l:Nat} {x y:Rat} (hx:Wh k x) (hy:Wh l y):Wh (k+l) (x*y):=by
 obtain ⟨z,rfl,b⟩:=hx;obtain ⟨u,rfl,c⟩:=hy;exact ⟨z*u,by rw[Rat.intCast_mul],by rw[Int.natAbs_mul,Nat.pow_add];exact Nat.mul_le_mul b c⟩
theorem Wh.add {k:Nat} {x y:Rat} (hx:Wh k x) (hy:Wh k y):Wh (k+1) (x+y):=by
 obtain ⟨z,rfl,b⟩:=hx;obtain ⟨u,rfl,c⟩:=hy;refine ⟨z+u,by rw[Rat.intCast_add],?_⟩;rw[Nat.pow_succ];have:=Int.natAbs_add_le z u
 omega
theorem Wh.neg {k:Nat} {x:Rat} (hx:Wh k x):Wh k (-x):=by
 obtain ⟨z,rfl,b⟩:=hx;exact ⟨-z,by rw[Rat.intCast_neg],by rw[Int.natAbs_neg];exact b⟩
theorem Wh.sub {k:Nat} {x y:Rat} (hx:Wh k x) (hy:Wh k y):Wh (k+1) (x-y):=by
 rw[Rat.sub_eq_add_neg];exact hx.add hy.neg
theorem Wh.zero (k:Nat):Wh k 0:=⟨0,rfl,Nat.zero_le _⟩
theorem Wh.one (k:Nat):Wh k 1:=⟨1,rfl,Nat.one_le_two_pow⟩
theorem Wh.bt {k:Nat} {x:Rat} (h:Wh k x):Bt k x:=by
 obtain ⟨z,rfl,b⟩:=h;exact Bt.ofInt b
theorem Wh.dot {k l:Nat} : ∀ {a b:List Rat},(∀ x∈a,Wh k x)->(∀ x∈b,Wh l x)->Wh (k+l+a.length) (AZ a b)
 | [],b,_,_=>by cases b<;>exact Wh.zero _
 | x::a,[],_,_=>Wh.zero _
 | x::a,y::b,ha,hb=>by
  rw[AZ,List.length_cons,<-Nat.add_assoc];exact (((ha x List.mem_cons_self).mul (hb y List.mem_cons_self)).le (by omega)).add (Wh.dot (λ z hz=>ha z (List.mem_cons_of_mem _ hz)) λ z hz=>hb z (List.mem_cons_of_mem _ hz))
theorem eR (y:Rat):y*(y.den:Rat)=(y.num:Rat):=by
 have h:=Rat.num_divInt_den y;rw[Rat.divInt_eq_div]at h;have h0:((y.den:Int):Rat)≠0:=λ e=>by
  have:((y.den:Int):Rat)=((0:Int):Rat):=e
  have:=Rat.intCast_inj.1 this
  have:=y.den_pos
  omega
 have h2:=Rat.div_mul_cancel h0 (a:=(y.num:Rat));rw[h,Rat.intCast_natCast]at h2;exact h2
theorem qP {y:Rat} {T:Nat} {z:Int} (h:(T:Rat)*y=(z:Rat)):y.den ∣ T:=by
 have h1:y*(y.den:Rat)=(y.num:Rat):=eR y;have h2:(((T:Int)*y.num:Int):Rat)=((z*(y.den:Int):Int):Rat):=by
  rw[Rat.intCast_mul,Rat.intCast_mul,<-h1,<-h,Rat.intCast_natCast,Rat.intCast_natCast,Rat.mul_assoc]
 have h3:=Rat.intCast_inj.1 h2;have h4:(y.den:Int) ∣ (T:Int)*y.num:=⟨z,by rw[h3,Int.mul_comm]⟩;have h5:y.den ∣ T*y.num.natAbs:=by
  have:=Int.natAbs_dvd_natAbs.2 h4
  simpa [Int.natAbs_mul] using this
 exact Nat.Coprime.dvd_of_dvd_mul_right (Nat.Coprime.symm y.reduced) h5
theorem ApK {S M:Nat} {x:Rat} (hS:S ∣ M) (hM : ∃ z:Int,(M:Rat)*x=(z:Rat)) : ∃ S':Nat,SI (S:Rat) x=(S':Rat)/\S' ∣ M/\S ∣ S' /\ ∃ z:Int,(S':Rat)*x=(z:Rat):=by
 obtain ⟨T,rfl⟩:=hS;obtain ⟨z,hz⟩:=hM;have h1:((S:Rat)*x).den ∣ T:=qP (z:=z) (by rw[<-hz,Rat.natCast_mul];grind);have h2:((S:Rat)*x)*((((S:Rat)*x).den:Nat):Rat)=(((S:Rat)*x).num:Rat):=eR _;generalize ((S:Rat)*x).num=u at h2;refine ⟨S*((S:Rat)*x).den,?_,Nat.mul_dvd_mul_left S h1,Nat.dvd_mul_right _ _,u,?_⟩
 ·rw[SI,Rat.natCast_mul]
 ·rw[Rat.natCast_mul];grind
theorem AfF {M:Nat} : ∀ (l:List Rat) (S:Nat),S ∣ M->(∀ x∈l,∃ z:Int,(M:Rat)*x=(z:Rat)) -> ∃ S':Nat,l.foldl SI (S:Rat)=(S':Rat)/\S' ∣ M/\S ∣ S' /\ ∀ x∈l,∃ z:Int,(S':Rat)*x=(z:Rat)
 | [],S,hS,_=>⟨S,rfl,hS,Nat.dvd_refl S,λ x hx=>by cases hx⟩
 | x::l,S,hS,h=>by
  obtain ⟨S1,e1,d1,d2,z,hz⟩:=ApK hS (h x List.mem_cons_self);obtain ⟨S2,e2,d3,d4,h2⟩:=AfF l S1 d1 λ y hy=>h y (List.mem_cons_of_mem _ hy)
  refine ⟨S2,by rw[List.foldl_cons,e1,e2],d3,Nat.dvd_trans d2 d4,λ y hy => ?_⟩;rcases List.mem_cons.1 hy with rfl|hy
  ·obtain ⟨k,rfl⟩:=d4
   exact ⟨z*(k:Int),by rw[Rat.natCast_mul,Rat.intCast_mul,<-hz,Rat.intCast_natCast];grind⟩
  ·exact h2 y hy
theorem ApM {M:Nat} {l:List Rat} (h : ∀ x∈l,∃ z:Int,(M:Rat)*x=(z:Rat)) : ∃ S:Nat,BF l=(S:Rat)/\S ∣ M /\ ∀ x∈l,∃ z:Int,x*BF l=(z:Rat):=by
 obtain ⟨S,e,d,_,h2⟩:=AfF l 1 (Nat.one_dvd M) h;refine ⟨S,e,d,λ x hx => ?_⟩;obtain ⟨z,hz⟩:=h2 x hx;exact ⟨z,by rw[Rat.mul_comm,<-hz];congr 1⟩
def KI:Nat->Nat->Nat
 | 0,_=>0
 | n+1,k=>KI n (2*k+1)+k+n+1
theorem Ad8 : ∀ (n k:Nat) (l:List (List Rat × Rat)),l.length=n->(∀ p∈l,p.1.length=n/\(∀ x∈p.1,Wh k x)/\Wh k p.2)->(∀ X:List Rat,X.length=n->(∀ p∈l,AZ p.1 X=0) -> ∀ z∈X,z=0) ->
  ∃ (N:Rat) (v:List Rat),N≠0/\Wh (KI n k) N/\v.length=n/\(∀ x∈v,Wh (KI n k) x) /\ ∀ p∈l,AZ p.1 v=N*p.2
 | 0,k,l,hl,_,_=>⟨1,[],by decide,Wh.one _,rfl,(λ x hx=>by cases hx),(λ p hp=>by rw[List.length_eq_zero_iff.1 hl]at hp;cases hp)⟩
 | n+1,k,l,hl,hb,fr=>by
  have nk : ∀ p∈l,∃ (a:Rat) (t:List Rat),p.1=a::t/\t.length=n/\Wh k a/\(∀ x∈t,Wh k x):=λ p hp=>by
   obtain ⟨h1,h2,_⟩:=hb p hp;obtain ⟨p1,p2⟩:=p;cases p1 with
   | nil=>simp at h1
   | cons a t=>exact ⟨a,t,rfl,by simpa using h1,h2 a List.mem_cons_self,λ x hx=>h2 x (List.mem_cons_of_mem _ hx)⟩
  obtain ⟨p,hp,Jk⟩ : ∃ p∈l,p.1.headD 0≠0:=Classical.byContradiction λ Dd=>by
   have:=fr (1::List.replicate n 0) (by simp) (λ p hp=>by
    obtain ⟨a,t,e,ht,_,_⟩:=nk p hp;have ha:a=0:=Classical.byContradiction λ h=>Dd ⟨p,hp,by rw[e];exact h⟩
    rw[e,AZ,Yd,ha];grind) 1 List.mem_cons_self
   exact absurd this (by decide)
  obtain ⟨l1,l2,rfl⟩:=List.append_of_mem hp;obtain ⟨a,t,ep,ht,ji,Lz⟩:=nk p hp;have Bh:a≠0:=by rw[ep]at Jk;exact Jk
  have hpb:=(hb p hp).2.2;have wy : ∀ q,q∈l1++l2->q∈l1++p::l2:=λ q hq=>by
   rcases List.mem_append.1 hq with h|h
   ·exact List.mem_append_left _ h
   ·exact List.mem_append_right _ (List.mem_cons_of_mem _ h)
  have Cu : ∀ q,q∈l1++p::l2->q=p\/q∈l1++l2:=λ q hq=>by
   rcases List.mem_append.1 hq with h|h
   ·exact Or.inr (List.mem_append_left _ h)
   ·rcases List.mem_cons.1 h with h|h
    ·exact Or.inl h
    ·exact Or.inr (List.mem_append_right _ h)
  obtain ⟨N,v,n1,n2,n3,n4,n5⟩:=Ad8 n (2*k+1) ((l1++l2).map λ q=>(comb a (q.1.headD 0) 1 q.1.tail t,a*q.2-q.1.headD 0*p.2)) (by
   rw[List.length_map,List.length_append];rw[List.length_append,List.length_cons]at hl;omega) (λ q' De=>by
    obtain ⟨q,hq,rfl⟩:=List.mem_map.1 De;obtain ⟨c,s,eq,hs,hc,Cb⟩:=nk q (wy q hq);have yc:=(hb q (wy q hq)).2.2;simp only[eq,List.headD_cons,List.tail_cons];refine ⟨by rw[vL (by omega)];exact hs,λ x hx => ?_,?_⟩
    ·obtain ⟨y,hy,w,hw,rfl⟩:=vM hx
     rw[show (y*a-w*c)/1=y*a-w*c by rw[Rat.div_def];grind];exact ((((Cb y hy).mul ji).sub ((Lz w hw).mul hc))).le (by omega)
    ·exact (((ji.mul yc).sub (hc.mul hpb))).le (by omega)) (λ X hX hk=>by
    have hz:=fr (-(AZ t X)/a::X) (by rw[List.length_cons,hX]) (λ q hq=>by
     have Cw:=Rat.div_mul_cancel Bh (a := -(AZ t X));rcases Cu q hq with rfl|Ap
     ·rw[ep,AZ];grind
     ·obtain ⟨c,s,eq,hs,_,_⟩:=nk q hq
      have h1:=hk _ (List.mem_map.2 ⟨q,Ap,rfl⟩);simp only[eq,List.headD_cons,List.tail_cons]at h1;rw[qI a c 1 s t X (by omega),show (a*AZ s X-c*AZ t X)/1=a*AZ s X-c*AZ t X by rw[Rat.div_def];grind]at h1;rw[eq,AZ];generalize -(AZ t X)/a=u at *;generalize AZ t X=w at *;generalize AZ s X=y at *;have h2:a*(c*u+y)=0:=by grind
      rcases Rat.mul_eq_zero.1 h2 with h|h
      ·exact absurd h Bh
      ·exact h)
    intro z wg;exact hz z (List.mem_cons_of_mem _ wg))
  refine ⟨a*N,(N*p.2-AZ t v)::v.map (a * ·),?_,?_,by rw[List.length_cons,List.length_map,n3],λ x hx => ?_,λ q hq => ?_⟩
  ·intro e
   rcases Rat.mul_eq_zero.1 e with e|e
   ·exact Bh e
   ·exact n1 e
  ·exact (ji.mul n2).le (by rw[KI];omega)
  ·rcases List.mem_cons.1 hx with rfl|hx
   ·refine (((n2.mul hpb).le (show KI n (2*k+1)+k<=KI n (2*k+1)+k+n by omega)).sub ((Wh.dot Lz n4).le (by omega))).le (by rw[KI];omega)
   ·obtain ⟨y,hy,rfl⟩:=List.mem_map.1 hx
    exact (ji.mul (n4 y hy)).le (by rw[KI];omega)
  ·have hm : ∀ s:List Rat,AZ s (v.map (a * ·))=a*AZ s v:=λ s=>by rw[FU,jQ,FU]
   rcases Cu q hq with rfl|Ap
   ·rw[ep,AZ,hm];grind
   ·obtain ⟨c,s,eq,hs,_,_⟩:=nk q hq
    have h1:=n5 _ (List.mem_map.2 ⟨q,Ap,rfl⟩);simp only[eq,List.headD_cons,List.tail_cons]at h1;rw[qI a c 1 s t v (by omega),show (a*AZ s v-c*AZ t v)/1=a*AZ s v-c*AZ t v by rw[Rat.div_def];grind]at h1;rw[eq,AZ,hm];grind
theorem Ap6 {n k:Nat} {a:List (List Rat)} {b c:List Rat} (dh:a.length=n) (gb : ∀ r∈a,r.length=n) (jk:b.length=n) (ha : ∀ r∈a,∀ x∈r,Wh k x) (hb : ∀ x∈b,Wh k x) (fr:NS n a) (hc:c.length=n) (h : ∀ (i:Nat) (r:List Rat) (s:Rat),a[i]? = some r->b[i]? = some s->AZ r c=s):Bs (2*KI n k) c:=by
 obtain ⟨N,v,n1,n2,n3,n4,n5⟩:=Ad8 n k (a.zip b) (by rw[List.length_zip];omega) (λ p hp=>by
  obtain ⟨h1,h2⟩:=List.of_mem_zip (a:=p.1) (b:=p.2) hp;exact ⟨gb _ h1,ha _ h1,hb _ h2⟩) (λ X hX hk=>by
  have hz:=fr X hX λ r hr=>by
   obtain ⟨i,hi⟩:=List.getElem?_of_mem hr;obtain ⟨s,hs⟩ : ∃ s,b[i]? = some s:=⟨_,zE (by have:=(zS hi).1;omega)⟩;exact hk (r,s) (zM (i:=i) (by rw[List.getElem?_zip_eq_some];exact ⟨hi,hs⟩))
  intro z wg;obtain ⟨j,hj⟩:=List.getElem?_of_mem wg;have:=hz j
  rw[List.getD_eq_getElem?_getD,hj]at this;exact this)
 have hNi:=Rat.mul_inv_cancel N n1;have e:c=v.map (· * N⁻¹):=Age gb hc (by rw[List.length_map];exact n3) (by
  refine List.ext_getElem? λ i => ?_
  simp only[BX,List.getElem?_map];cases hi:a[i]? with
  | none=>rfl
  | some r =>
   obtain ⟨s,hs⟩ : ∃ s,b[i]? = some s:=⟨_,zE (by have:=(zS hi).1;omega)⟩;have h5:=n5 (r,s) (zM (i:=i) (by rw[List.getElem?_zip_eq_some];exact ⟨hi,hs⟩));rw[Option.map_some,Option.map_some,h i r s hi hs,FU,cT,FU,h5];congr 1;grind) fr
 rw[e];intro x hx;obtain ⟨y,hy,rfl⟩:=List.mem_map.1 hx;rw[<-Rat.div_def];exact ((n4 y hy).bt.nr n2.bt).le (by omega)
theorem Aei {α:Type} {l:List α} (h:l.length=1) : ∃ a,l=[a]:=by
 rcases l with _|⟨a,_|⟨b,l⟩⟩<;>simp at h
 exact ⟨a,rfl⟩
def hQ (S:E7):Nat->Rat
 | 0=>S.d
 | j+1=>AZ S.c (wQ S j)
theorem Aqx {r:List Rat} (h:cE r=r) (hn:r.length≠0):r.getD (r.length-1) 0≠0:=by
 have hl:=Agt r;rw[h]at hl;obtain ⟨n,vq⟩ : ∃ n,r.length=n+1:=⟨r.length-1,by omega⟩;rw[vq,I0]at hl;rw[vq,Nat.add_sub_cancel];intro h0;rw[if_pos h0]at hl;have:=mD r n
 omega
def FK (B A:List Rat) (n:Nat):E7 where
 a:=(List.range n).map λ i=>if i=0 then (List.range n).map λ k => -(A.getD (k+1) 0) else EZ n ((i-1:Nat):Int)
 b:=EZ n 0
 c:=(List.range n).map λ i=>B.getD (i+1) 0-B.getD 0 0*A.getD (i+1) 0
 d:=B.getD 0 0
def H7 (x:Rat):Rat:=if x.num<0 then -x else x
theorem wG {n i:Nat} {v:List Rat} (hv:v.length=n) (hi:i<n):AZ (EZ n i) v=v.getD i 0:=by
 have e:=congrArg (λ l=>l.getD i 0) (nI hv);simp only[BX,FL,List.map_map]at e;rw[eJ,if_pos hi]at e;exact e
end Go.e9
