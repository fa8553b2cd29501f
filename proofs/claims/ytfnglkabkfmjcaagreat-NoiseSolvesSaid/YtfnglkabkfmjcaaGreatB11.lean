/-
  Linear systems, plain: matrices of steps with all pivots have the trivial kernel alone, others have more; solutions and inverses.
-/
import Derived.Test.YtfnglkabkfmjcaaGreatB10
set_option linter.unusedSimpArgs false
set_option linter.unusedVariables false
set_option linter.unnecessarySimpa false
namespace Go.c5
def BW (f:Nat->Rat):Nat->Rat
 | 0=>0
 | n+1=>BW f n+f n
theorem hH {f g:Nat->Rat} : ∀ n,(∀ j,j<n->f j=g j)->BW f n=BW g n
 | 0,_=>rfl
 | n+1,h=>by rw[BW,BW,hH n λ j hj=>h j (by omega),h n (by omega)]
theorem T8 {f:Nat->Rat} : ∀ n,(∀ j,j<n->f j=0)->BW f n=0
 | 0,_=>rfl
 | n+1,h=>by rw[BW,T8 n λ j hj=>h j (by omega),h n (by omega),Rat.add_zero]
theorem uI {f:Nat->Rat} {n:Nat} : ∀ d,(∀ j,n<=j->f j=0)->BW f (n+d)=BW f n
 | 0,_=>rfl
 | d+1,h=>by rw[<-Nat.add_assoc,BW,uI d h,h (n+d) (by omega),Rat.add_zero]
theorem hJ {f:Nat->Rat} {k:Nat} : ∀ n,k<n->(∀ j,j<n->j≠k->f j=0)->BW f n=f k
 | n+1,hk,h=>by
  by_cases e:k=n
  ·subst e
   rw[BW,T8 k λ j hj=>h j (by omega) (by omega),Rat.zero_add]
  ·rw[BW,hJ n (by omega) λ j hj=>h j (by omega),h n (by omega) (Ne.symm e),Rat.add_zero]
theorem uJ (R y:Nat->Rat) (v:Rat) (k:Nat) : ∀ n,BW (λ j=>R j*(if j=k then v else y j)) n=BW (λ j=>R j*y j) n+if k<n then R k*(v-y k) else 0
 | 0=>by simp [BW,Rat.add_zero]
 | n+1=>by
  rw[BW,BW,uJ R y v k n];by_cases e:n=k
  ·subst e
   rw[if_pos rfl,if_neg (Nat.lt_irrefl n),if_pos (Nat.lt_succ_self n)];grind
  ·rw[if_neg e]
   by_cases h:k<n
   ·rw[if_pos h,if_pos (by omega)];grind
   ·rw[if_neg h,if_neg (by omega)];grind
theorem uH (f:Nat->Rat) : ∀ n,BW f (n+1)=f 0+BW (λ j=>f (j+1)) n
 | 0=>by simp only[BW];grind
 | n+1=>by rw[BW,uH f n,BW];grind
theorem YD : ∀ (r X:List Rat) (n:Nat),r.length<=n->A3 r X=BW (λ j=>r.getD j 0*X.getD j 0) n
 | [],X,n,_=>by rw[T8 n λ j _=>by simp];rfl
 | x::r,[],n,_=>by rw[S9,T8 n λ j _=>by simp]
 | x::r,y::X,0,h=>by simp at h
 | x::r,y::X,n+1,h=>by
  rw[uH,A3,YD r X n (by simpa using h)];simp
def A0 (m:List (List Rat)) (i j:Nat):Rat:=(m.getD i []).getD j 0
theorem JW {m:List (List Rat)} {i:Nat} {r:List Rat} (h:m[i]? = some r) (j:Nat):A0 m i j=r.getD j 0:=by
 rw[A0,show m.getD i []=r by rw[List.getD_eq_getElem?_getD,h];rfl]
def SV (R:Nat->Nat->Rat) (c:Nat):Prop := ∀ i,i<c->R i i≠0 /\ ∀ j,j<i->R i j=0
theorem uO {R:Nat->Nat->Rat} {c:Nat} (h:SV R c) (f:Nat->Rat) : ∀ d,d<=c -> ∃ y:Nat->Rat,∀ i,c-d<=i->i<c->BW (λ j=>R i j*y j) c=f i
 | 0,_=>⟨λ_=>0,λ i h1 h2=>absurd h2 (by omega)⟩
 | d+1,hd=>by
  obtain ⟨y,hy⟩:=uO h f d (by omega);obtain ⟨k,hk⟩ : ∃ k,k=c-(d+1):=⟨_,rfl⟩;have La:k<c:=by omega
  refine ⟨λ j=>if j=k then y k+(f k-BW (λ j=>R k j*y j) c)/R k k else y j,λ i h1 h2 => ?_⟩;rw[uJ (R i) y _ k c,if_pos La];by_cases e:i=k
  ·subst e
   have h0:=(h i La).1;have:=Rat.div_mul_cancel h0 (a:=f i-BW (λ j=>R i j*y j) c)
   grind
  ·rw[hy i (by omega) h2,(h i h2).2 k (by omega)];grind
theorem uP {R:Nat->Nat->Rat} {c:Nat} (h:SV R c) {y:Nat->Rat} (hy : ∀ i,i<c->BW (λ j=>R i j*y j) c=0) : ∀ d,d<=c -> ∀ j,c-d<=j->j<c->y j=0
 | 0,_=>λ j h1 h2=>absurd h2 (by omega)
 | d+1,hd=>λ j h1 h2=>by
  have ih:=uP h hy d (by omega);by_cases e:c-d<=j
  ·exact ih j e h2
  ·have h3:=hy j h2
   rw[hJ c h2 λ q hq hn=>by
    by_cases e2:q<j
    ·rw[(h j h2).2 q e2,Rat.zero_mul]
    ·rw[ih q (by omega) hq,Rat.mul_zero]]at h3
   rcases Rat.mul_eq_zero.1 h3 with h4|h4
   ·exact absurd h4 (h j h2).1
   ·exact h4
theorem EC.low {m:List (List Rat)} {W c:Nat} {P:List Nat} (h:EC m W c P) : ∀ i p:Nat,P[i]? = some p->i<=p
 | 0,p,_=>Nat.zero_le p
 | i+1,p,hp=>by
  have u7:=(zS hp).1;obtain ⟨q,hq⟩ : ∃ q,P[i]? = some q:=⟨_,zE (by omega)⟩;have h1:=h.inc i (i+1) q p (by omega) hq hp;have h2:=h.low i q hq;omega
theorem EC.le {m:List (List Rat)} {W c:Nat} {P:List Nat} (h:EC m W c P):P.length<=c:=by
 cases e:P.length with
 | zero=>exact Nat.zero_le c
 | succ k =>
  obtain ⟨q,hq⟩ : ∃ q,P[k]? = some q:=⟨_,zE (by omega)⟩;have h1:=h.low k q hq;have h2:=h.pb q (zM hq);omega
theorem EC.wide {m:List (List Rat)} {W c n:Nat} {P:List Nat} (h:EC m W c P) (hP:P.length=m.length) (hn:c<=n):EC m W n P :=
 ⟨h.lr,h.pl,h.inc,λ p hp=>Nat.lt_of_lt_of_le (h.pb p hp) hn,h.nz,λ i r hi hr=>by
  have:=(zS hr).1
  omega⟩
theorem sN {m:List (List Rat)} {W i n:Nat} {r X:List Rat} (hr:m[i]? = some r) (hl:r.length=W) (hn:n<=W) (hX : ∀ j,n<=j->X.getD j 0=0):A3 r X=BW (λ j=>A0 m i j*X.getD j 0) n:=by
 obtain ⟨d,rfl⟩:=Nat.exists_eq_add_of_le hn;rw[YD r X (n+d) (by omega),uI d λ j hj=>by rw[hX j hj,Rat.mul_zero]];exact hH n λ j _=>by rw[JW hr]
theorem EC.Nl {m:List (List Rat)} {W n c:Nat} {P:List Nat} (h:EC m W n P) (hc : ∀ i,i<c->P[i]? = some i):SV (A0 m) c:=λ i hi=>by
 have h1:=(zS (hc i hi)).1;obtain ⟨r,hr⟩ : ∃ r,m[i]? = some r:=⟨_,zE (Nat.lt_of_lt_of_le h1 h.pl)⟩;have:=h.nz i i r (hc i hi) hr
 rw[JW hr];exact ⟨this.1,λ j hj=>by rw[JW hr];exact this.2 j hj⟩
theorem EC.full {m:List (List Rat)} {W n:Nat} {P:List Nat} (h:EC m W n P) (hP:P.length=n) (hW:n<=W) {X:List Rat} (hk:EQ m X) (hX : ∀ j,n<=j->X.getD j 0=0) (j:Nat):X.getD j 0=0:=by
 have hd : ∀ i,i<n->P[i]? = some i:=λ i hi=>by
  obtain ⟨q,hq⟩ : ∃ q,P[i]? = some q:=⟨_,zE (by omega)⟩;rw[hq,h.diag hP i q hq]
 have ht:=h.Nl hd;by_cases e:j<n
 ·refine uP ht (y:=λ j=>X.getD j 0) (λ i hi => ?_) n (Nat.le_refl n) j (by omega) e
  obtain ⟨r,hr⟩ : ∃ r,m[i]? = some r:=⟨_,zE (by have:=h.pl;omega)⟩;rw[<-sN hr (h.lr r (zM hr)) hW hX];exact hk r (zM hr)
 ·exact hX j (by omega)
theorem EC.gap {m:List (List Rat)} {W n:Nat} {P:List Nat} (h:EC m W n P) : ∀ c:Nat,c<=P.length->(∀ i:Nat,i<c->P[i]? = some i) \/ ∃ k,(∀ i,i<k->P[i]? = some i) /\ ∃ p:Nat,P[k]? = some p/\k<p
 | 0,_=>Or.inl λ i hi=>absurd hi (by omega)
 | c+1,hc=>by
  rcases h.gap c (by omega) with h1|h1
  ·obtain ⟨q,hq⟩ : ∃ q,P[c]? = some q:=⟨_,zE (by omega)⟩
   have h2:=h.low c q hq;by_cases e:q=c
   ·subst e
    exact Or.inl λ i hi=>by
     by_cases e:i=q
     ·subst e;exact hq
     ·exact h1 i (by omega)
   ·exact Or.inr ⟨c,h1,q,hq,by omega⟩
  ·exact Or.inr h1
theorem YP (f:Nat->Rat) (W j:Nat):((List.range W).map f).getD j 0=if j<W then f j else 0:=by
 rw[List.getD_eq_getElem?_getD,List.getElem?_map];by_cases h:j<W
 ·rw[List.getElem?_range h,if_pos h];rfl
 ·rw[List.getElem?_eq_none (by simp;omega),if_neg h];rfl
theorem EC.less {m:List (List Rat)} {W n:Nat} {P:List Nat} (h:EC m W n P) (hP:P.length<n) (hW:n<=W) : ∃ X:List Rat,X.length=W/\EQ m X/\(∀ j,n<=j->X.getD j 0=0) /\ ∃ j,X.getD j 0≠0:=by
 obtain ⟨c,nf,hc,hz⟩ : ∃ c,c<n/\(∀ i,i<c->P[i]? = some i) /\ ∀ i r,c<=i->m[i]? = some r -> ∀ j,j<=c->r.getD j 0=0:=by
  rcases h.gap P.length (Nat.le_refl _) with h1|⟨k,h1,p,h2,h3⟩
  ·exact ⟨P.length,hP,h1,λ i r hi hr j hj=>h.zr i r hi hr j (by omega)⟩
  ·refine ⟨k,Nat.lt_trans h3 (h.pb p (zM h2)),h1,λ i r hi hr j hj => ?_⟩
   by_cases e:i<P.length
   ·obtain ⟨q,hq⟩ : ∃ q,P[i]? = some q:=⟨_,zE e⟩
    refine (h.nz i q r hq hr).2 j ?_;by_cases e2:i=k
    ·subst e2
     obtain rfl:=Option.some.inj (h2.symm.trans hq);omega
    ·have:=h.inc k i p q (by omega) h2 hq
     omega
   ·exact h.zr i r (by omega) hr j (by have:=h.pb p (zM h2);omega)
 obtain ⟨y,hy⟩:=uO (h.Nl hc) (λ i=>A0 m i c) c (Nat.le_refl c);have hg : ∀ j,((List.range W).map λ j=>if j<c then y j else if j=c then (-1:Rat) else 0).getD j 0=if j<c then y j else if j=c then (-1:Rat) else 0:=λ j=>by
  rw[YP];by_cases e:j<W
  ·rw[if_pos e]
  ·rw[if_neg e,if_neg (by omega),if_neg (by omega)]
 refine ⟨(List.range W).map λ j=>if j<c then y j else if j=c then (-1:Rat) else 0,by simp,λ r hr => ?_,λ j hj => ?_,c,?_⟩
 ·obtain ⟨i,hi⟩:=List.getElem?_of_mem hr
  rw[sN hi (h.lr r hr) (show c+1<=W by omega) λ j hj=>by rw[hg,if_neg (by omega),if_neg (by omega)],BW,hg,if_neg (Nat.lt_irrefl c),if_pos rfl];by_cases e:i<c
  ·rw[hH c (g:=λ j=>A0 m i j*y j) λ j hj=>by rw[hg,if_pos hj],hy i (by omega) e];grind
  ·rw[T8 c λ j hj=>by rw[JW hi,hz i r (by omega) hi j (by omega),Rat.zero_mul],JW hi,hz i r (by omega) hi c (Nat.le_refl c),Rat.zero_mul,Rat.add_zero]
 ·rw[hg,if_neg (by omega),if_neg (by omega)]
 ·rw[hg,if_neg (Nat.lt_irrefl c),if_pos rfl]
  decide
def UO (m a:List (List Rat)):Prop:=m.length=a.length /\ ∀ (i:Nat) (r:List Rat),a[i]? = some r -> ∃ s:Rat,s≠0/\m[i]? = some (r.map (· * s))
theorem TA (x:Rat) : ∀ a b:List Rat,A3 (a.map (· * x)) b=A3 a b*x
 | [],b=>by simp [A3]
 | a::l,[]=>by rw[S9,S9,Rat.zero_mul]
 | a::l,b::k=>by
  simp only[List.map_cons,A3,TA x l k];grind
theorem UO.jv {m a:List (List Rat)} (h:UO m a) (X:List Rat):EQ m X↔EQ a X:=by
 constructor
 ·intro hk r hr
  obtain ⟨i,hi⟩:=List.getElem?_of_mem hr;obtain ⟨s,hs,hm⟩:=h.2 i r hi;have:=hk _ (zM hm)
  rw[TA]at this;rcases Rat.mul_eq_zero.1 this with h|h
  ·exact h
  ·exact absurd h hs
 ·intro hk r hr
  obtain ⟨i,hi⟩:=List.getElem?_of_mem hr;obtain ⟨q,hq⟩ : ∃ q,a[i]? = some q:=⟨_,zE (by have:=(zS hi).1;have:=h.1;omega)⟩;obtain ⟨s,hs,hm⟩:=h.2 i q hq;obtain rfl:=Option.some.inj (hi.symm.trans hm);rw[TA,hk q (zM hq),Rat.zero_mul]
def CO (a b:List (List Rat)):List (List Rat):=List.zipWith (· ++ ·) a b
def NS (n:Nat) (a:List (List Rat)):Prop := ∀ X:List Rat,X.length=n->EQ a X -> ∀ j,X.getD j 0=0
theorem KN : ∀ (u y v z:List Rat),u.length=y.length->A3 (u++v) (y++z)=A3 u y+A3 v z
 | [],[],v,z,_=>by simp [A3,Rat.zero_add]
 | x::u,w::y,v,z,h=>by
  simp only[List.cons_append,A3,KN u y v z (by simpa using h)];grind
theorem QM {a b:List (List Rat)} {i:Nat} {r s:List Rat} (hr:a[i]? = some r) (hs:b[i]? = some s):(CO a b)[i]? = some (r++s):=by
 simp [CO,List.getElem?_zipWith,hr,hs]
theorem dL {n:Nat} {a b:List (List Rat)} (hl:a.length=b.length) (ha : ∀ r∈a,r.length=n) (y z:List Rat) (hy:y.length=n):EQ (CO a b) (y++z) ↔ ∀ (i:Nat) (r s:List Rat),a[i]? = some r->b[i]? = some s->A3 r y+A3 s z=0:=by
 constructor
 ·intro h i r s hr hs
  rw[<-KN r y s z (by rw[ha r (zM hr),hy])];exact h _ (zM (QM hr hs))
 ·intro h q hq
  obtain ⟨i,hi⟩:=List.getElem?_of_mem hq;have u7:=(zS hi).1;simp only[CO,List.length_zipWith]at u7;obtain ⟨r,hr⟩ : ∃ r,a[i]? = some r:=⟨_,zE (by omega)⟩;obtain ⟨s,hs⟩ : ∃ s,b[i]? = some s:=⟨_,zE (by omega)⟩;obtain rfl:=Option.some.inj ((QM hr hs).symm.trans hi);rw[KN r y s z (by rw[ha r (zM hr),hy])];exact h i r s hr hs
theorem Vf {X:List Rat} (h : ∀ j,X.getD j 0=0) (r:List Rat):A3 r X=0:=by
 rw[YD r X r.length (Nat.le_refl _)];exact T8 _ λ j _=>by rw[h,Rat.mul_zero]
theorem AfL {m a b:List (List Rat)} {w n:Nat} {P:List Nat} (h:EC m (n+w) n P) (hk : ∀ X,EQ m X↔EQ (CO a b) X) (hl:a.length=b.length) (ha : ∀ r∈a,r.length=n):P.length=n↔NS n a:=by
 constructor
 ·intro hP X hX hka j
  have h1:EQ m (X++List.replicate w 0):=(hk _).2 ((dL hl ha X _ hX).2 λ i r s hr hs=>by
   rw[hka r (zM hr),TB,Rat.add_zero])
  by_cases e:j<n
  ·have h2:=h.full hP (by omega) h1 (λ j hj=>by
    rw[List.getD_eq_getElem?_getD,List.getElem?_append_right (by omega),List.getElem?_replicate];split<;>rfl) j
   rw[List.getD_eq_getElem?_getD,List.getElem?_append_left (by omega)]at h2;rw[List.getD_eq_getElem?_getD];exact h2
  ·rw[List.getD_eq_getElem?_getD,List.getElem?_eq_none (by omega)];rfl
 ·intro fc
  have h1:=h.le;rcases Nat.lt_or_ge P.length n with hP|hP
  ·exfalso
   obtain ⟨X,hX,hX1,Ov,j,hj⟩:=h.less hP (by omega);have h2:=(hk _).1 hX1;rw[<-List.take_append_drop n X]at h2;have aw:(X.take n).length=n:=by simp;omega
   have h3:=(dL hl ha _ _ aw).1 h2;have hz : ∀ q,(X.drop n).getD q 0=0:=λ q=>by
    have:=Ov (n+q) (by omega)
    rw[List.getD_eq_getElem?_getD]at this;rw[List.getD_eq_getElem?_getD,List.getElem?_drop];exact this
   have h4:=fc (X.take n) aw (λ r hr=>by
    obtain ⟨i,hi⟩:=List.getElem?_of_mem hr;obtain ⟨s,hs⟩ : ∃ s,b[i]? = some s:=⟨_,zE (by have:=(zS hi).1;omega)⟩;have:=h3 i r s hi hs
    rw[Vf hz,Rat.add_zero]at this;exact this) j
   by_cases e:j<n
   ·rw[List.getD_eq_getElem?_getD,List.getElem?_take_of_lt e,<-List.getD_eq_getElem?_getD]at h4
    exact hj h4
   ·exact hj (Ov j (by omega))
  ·omega
def YZ (w c:Nat):List Rat:=(List.range w).map λ q=>if q=c then -1 else 0
theorem mG {r:List Rat} {w c:Nat} (hr:r.length=w) (hc:c<w):A3 r (YZ w c) = - r.getD c 0:=by
 rw[YD r _ w (by omega),hJ w hc λ j hj hn=>by rw[YZ,YP,if_pos hj,if_neg hn,Rat.mul_zero],YZ,YP,if_pos hc,if_pos rfl];grind
theorem Tz {m a b:List (List Rat)} {w n c:Nat} {y:List Rat} (hk : ∀ X,EQ m X↔EQ (CO a b) X) (hl:a.length=b.length) (ha : ∀ r∈a,r.length=n) (hb : ∀ r∈b,r.length=w) (hc:c<w) (hy:y.length=n) (hm : ∀ r∈m,r.length=n+w) (hs : ∀ r∈m,A3 (r.take n) y=r.getD (n+c) 0) {i:Nat} {r s:List Rat} (hr:a[i]? = some r) (hi:b[i]? = some s):A3 r y=s.getD c 0:=by
 have h1:EQ m (y++YZ w c):=λ q hq=>by
  have xj:=hm q hq;have e:q=q.take n++q.drop n:=(List.take_append_drop n q).symm;rw[e,KN _ _ _ _ (by rw[List.length_take,hy];omega),hs q hq,mG (by rw[List.length_drop];omega) hc];have:(q.drop n).getD c 0=q.getD (n+c) 0:=by rw[List.getD_eq_getElem?_getD,List.getElem?_drop,<-List.getD_eq_getElem?_getD]
  rw[this];grind
 have h2:=(dL hl ha y _ hy).1 ((hk _).1 h1) i r s hr hi;rw[mG (hb s (zM hi)) hc]at h2;grind
end Go.c5
namespace Go.c5
theorem Bt.Nf {k:Nat} {y:Rat} (h:Bt k y):Bt k y⁻¹:=by
 rw[Rat.inv_def];rcases Int.natAbs_eq y.num with e|e
 ·rw[e,Rat.divInt_ofNat]
  exact Bt.mk (by simpa using h.2) h.1
 ·rw[e,Rat.divInt_neg',Rat.divInt_ofNat]
  exact Bt.mk (by simpa using h.2) h.1
theorem Bt.td {k l:Nat} {x y:Rat} (hx:Bt k x) (hy:Bt l y):Bt (k+l) (x/y):=by
 rw[Rat.div_def];exact hx.mul hy.Nf
theorem Bt.uz {k:Nat} {x:Rat} (h:Bt k x):Bt k (-x):=⟨by rw[Rat.neg_num,Int.natAbs_neg];exact h.1,by rw[Rat.neg_den];exact h.2⟩
theorem Bt.lf {k l:Nat} {x y:Rat} (hx:Bt k x) (hy:Bt l y):Bt (k+l+1) (x-y):=by
 rw[Rat.sub_eq_add_neg];exact hx.add hy.uz
theorem Bt.Dh {k:Nat} {x p y f l:Rat} (hx:Bt k x) (hp:Bt k p) (hy:Bt k y) (hf:Bt k f) (hl:Bt k l):Bt (5*k+1) ((x*p-y*f)/l) :=
 (((hx.mul hp).lf (hy.mul hf)).td hl).le (by omega)
theorem kW {p f l:Rat} : ∀ {r t:List Rat} {z:Rat},z∈comb p f l r t -> ∃ x∈r,∃ y∈t,z=(x*p-y*f)/l
 | [],_,z,h=>by simp [comb]at h
 | _::_,[],z,h=>by simp [comb]at h
 | x::r,y::t,z,h=>by
  simp only[comb,List.zipWith_cons_cons,List.mem_cons]at h;rcases h with h|h
  ·exact ⟨x,List.mem_cons_self,y,List.mem_cons_self,h⟩
  ·obtain ⟨a,ha,b,hb,e⟩:=kW (r:=r) (t:=t) h
   exact ⟨a,List.mem_cons_of_mem _ ha,b,List.mem_cons_of_mem _ hb,e⟩
theorem Bs.comb {k:Nat} {r t:List Rat} {p f l:Rat} (hr:Bs k r) (ht:Bs k t) (hp:Bt k p) (hf:Bt k f) (hl:Bt k l):Bs (5*k+1) (comb p f l r t):=λ z hz=>by
 obtain ⟨x,hx,y,hy,rfl⟩:=kW hz;exact Bt.Dh (hr x hx) hp (ht y hy) hf hl
theorem bG {p f l:Rat} : ∀ {r t:List Rat},r.length=t.length -> ∀ j,(comb p f l r t).getD j 0=(r.getD j 0*p-t.getD j 0*f)/l
 | [],[],_,j=>by simp [comb,Rat.div_def,Rat.zero_mul,Rat.sub_eq_add_neg,Rat.neg_zero,Rat.add_zero]
 | x::r,y::t,_,0=>by simp [comb]
 | x::r,y::t,h,j+1=>by
  have:=bG (p:=p) (f:=f) (l:=l) (r:=r) (t:=t) (by simpa using h) j
  simp only[comb]at this;simpa [comb] using this
def OY (s x:Rat):Rat:=s*(((s*x).den:Nat):Rat)
def C1 (r:List Rat):Rat:=r.foldl OY 1
theorem tC (r:List Rat) (x:Rat):C1 (r++[x])=OY (C1 r) x:=by rw[C1,List.foldl_append];rfl
theorem Agf {s x:Rat} (h:s≠0):OY s x≠0:=by
 intro e;rcases Rat.mul_eq_zero.1 e with e|e
 ·exact h e
 ·have:=(s*x).den_pos
  have:((s*x).den:Rat)=((0:Nat):Rat):=e
  have:=Rat.natCast_inj.1 this
  omega
theorem Agg (r:List Rat):C1 r≠0:=by
 have : ∀ (r:List Rat) (s:Rat),s≠0->r.foldl OY s≠0:=by
  intro r;induction r with
  | nil=>intro s h;exact h
  | cons x r ih=>intro s h;exact ih _ (Agf h)
 exact this r 1 (by decide)
def whole (m:List (List Rat)):List (List Rat):=m.map λ r=>r.map (· * C1 r)
theorem Ag8 (m:List (List Rat)):UO (whole m) m:=⟨by simp [whole],λ i r hr=>⟨C1 r,Agg r,by simp [whole,hr]⟩⟩
theorem Ag7 {m:List (List Rat)} {W:Nat} (h : ∀ r∈m,r.length=W) : ∀ r∈whole m,r.length=W:=λ r hr=>by
 obtain ⟨q,hq,rfl⟩:=List.mem_map.1 hr;simpa using h q hq
def H6:List (List Rat)->List Nat->Rat
 | r::m,p::P=>r.getD p 0*H6 m P
 | _,_=>1
theorem V7 : ∀ m,H6 m []=1
 | []=>rfl
 | _::_=>rfl
theorem Y6 : ∀ (m:List (List Rat)) (P:List Nat) (i:Nat) (x:List Rat),P.length<=i->H6 (m.set i x) P=H6 m P
 | [],_,_,_,_=>rfl
 | _::_,[],_,_,_=>by rw[V7,V7]
 | r::m,p::P,0,x,h=>by simp at h
 | r::m,p::P,i+1,x,h=>by
  rw[List.set_cons_succ,H6,H6,Y6 m P i x (by simpa using h)]
theorem rN (c:Nat) (t:List Rat) : ∀ (m:List (List Rat)) (P:List Nat),m[P.length]? = some t->H6 m (P++[c])=H6 m P*t.getD c 0
 | [],_,h=>by simp at h
 | r::m,[],h=>by
  obtain rfl:r=t:=by simpa using h
  rw[List.nil_append,H6,V7,V7,Rat.mul_one,Rat.one_mul]
 | r::m,p::P,h=>by
  rw[List.cons_append,H6,H6,rN c t m P (by simpa using h),Rat.mul_assoc]
structure iR (n W:Nat) (u:Rat) (D:List (List Rat)->Rat):Prop where
 sw : ∀ (m:List (List Rat)) (i k:Nat) (a b:List Rat),m.length=n->(∀ r∈m,r.length=W)->m[i]? = some a->m[k]? = some b->i≠k->D ((m.set i b).set k a) = -D m
 ad : ∀ (m:List (List Rat)) (i k:Nat) (r t:List Rat) (p f l:Rat),m.length=n->(∀ r∈m,r.length=W)->m[i]? = some r->m[k]? = some t->i≠k->l≠0->D (m.set i (comb p f l r t))=D m*(p/l)
 sc : ∀ (m:List (List Rat)) (i:Nat) (r:List Rat) (s:Rat),m.length=n->(∀ r∈m,r.length=W)->m[i]? = some r->D (m.set i (r.map (· * s)))=D m*s
 tr : ∀ m:List (List Rat),m.length=n->(∀ r∈m,r.length=W)->SV (A0 m) n->D m=H6 m (List.range n)*u
def WI (b:Bool):Rat:=bif b then -1 else 1
theorem Agj (b:Bool):WI (!b) = -WI b:=by cases b<;>decide
theorem rD : ∀ n:Nat,(1:Rat)^n=1
 | 0=>Rat.pow_zero 1
 | n+1=>by rw[Rat.pow_succ,rD n,Rat.mul_one]
theorem rV {l:Rat} (h:l≠0) : ∀ n:Nat,l^n≠0
 | 0=>by rw[Rat.pow_zero];decide
 | n+1=>by
  rw[Rat.pow_succ];intro e;rcases Rat.mul_eq_zero.1 e with e|e
  ·exact rV h n e
  ·exact h e
theorem Afe {a b c:Rat} (h:c≠0) (e:a*c=b*c):a=b:=by
 have h1:=Rat.mul_inv_cancel c h;have:a*c*c⁻¹=b*c*c⁻¹:=by rw[e]
 rwa [Rat.mul_assoc,Rat.mul_assoc,h1,Rat.mul_one,Rat.mul_one]at this
structure GU (m0:List (List Rat)) (K W bj:Nat) (m:List (List Rat)) (P:List Nat) (c:Nat) (odd:Bool) (l:Rat):Prop where
 w6:EC m W c P
 len:m.length=m0.length
 cc:c<=bj
 l0:l≠0
 jv : ∀ X,EQ m X↔EQ m0 X
 ms:Ms (6^P.length*K) m
 bl:Bt (6^P.length*K) l
 dt : ∀ (u:Rat) (D:List (List Rat)->Rat),iR m0.length W u D->D m*l=WI odd*D m0*H6 m P*l^(m0.length-P.length)
theorem GU.start {m0:List (List Rat)} {K W bj:Nat} (h : ∀ r∈m0,r.length=W) (hb:Ms K m0):GU m0 K W bj m0 [] 0 false 1 :=
 ⟨EC.start h,rfl,Nat.zero_le _,by decide,λ_=>Iff.rfl,by simpa using hb,Bt.one _,λ u D _=>by rw[V7,rD,Rat.mul_one,Rat.mul_one,Rat.mul_one];exact (Rat.one_mul _).symm⟩
section
variable {m0 m:List (List Rat)} {K W bj c:Nat} {P:List Nat} {odd:Bool} {l:Rat}
theorem GU.skip (h:GU m0 K W bj m P c odd l) (hc:c<bj) (hz : ∀ (i:Nat) (r:List Rat),P.length<=i->m[i]? = some r->r.getD c 0=0):GU m0 K W bj m P (c+1) odd l :=
 ⟨h.w6.skip hz,h.len,hc,h.l0,h.jv,h.ms,h.bl,h.dt⟩
theorem GU.swap {i k:Nat} {a b:List Rat} (h:GU m0 K W bj m P c odd l) (hi:m[i]? = some a) (hk:m[k]? = some b) (h1:P.length<=i) (h2:P.length<=k) (hn:i≠k):GU m0 K W bj ((m.set i b).set k a) P c (!odd) l :=
 ⟨h.w6.swap hi hk h1 h2,by simpa using h.len,h.cc,h.l0,λ X=>(AeK hi hk X).trans (h.jv X),λ r hr=>by
  rcases OT hr with rfl|⟨j,_,hj⟩
  ·exact h.ms.at hi
  ·rcases OT (zM hj) with rfl|⟨q,_,hq⟩
   ·exact h.ms.at hk
   ·exact h.ms.at hq,h.bl,λ u D hD=>by
  rw[hD.sw m i k a b h.len h.w6.lr hi hk hn,Agj,Y6 _ _ _ _ h2,Y6 _ _ _ _ h1,Rat.neg_mul,h.dt u D hD,Rat.neg_mul,Rat.neg_mul,Rat.neg_mul]⟩
structure O9 (m0:List (List Rat)) (K W bj:Nat) (P:List Nat) (c:Nat) (odd:Bool) (l:Rat) (t:List Rat) (m:List (List Rat)) (i:Nat):Prop where
 w6:EC m W c P
 len:m.length=m0.length
 cc:c<bj
 l0:l≠0
 jv : ∀ X,EQ m X↔EQ m0 X
 ht:m[P.length]? = some t
 nt:t.getD c 0≠0
 lo : ∀ q r,q<i->m[q]? = some r->Bs (5*(6^P.length*K)+1) r
 hi : ∀ q r,i<=q->m[q]? = some r->Bs (6^P.length*K) r
 bt:Bs (6^P.length*K) t
 bl:Bt (6^P.length*K) l
 z : ∀ q r,P.length<q->q<i->m[q]? = some r->r.getD c 0=0
 dt : ∀ (u:Rat) (D:List (List Rat)->Rat),iR m0.length W u D->D m*l*l^(i-P.length-1)=WI odd*D m0*H6 m P*l^(m0.length-P.length)*t.getD c 0^(i-P.length-1)
theorem GU.swp {t:List Rat} (h:GU m0 K W bj m P c odd l) (hc:c<bj) (ht:m[P.length]? = some t) (hn:t.getD c 0≠0):O9 m0 K W bj P c odd l t m (P.length+1) :=
 ⟨h.w6,h.len,hc,h.l0,h.jv,ht,hn,λ q r _ hr=>(h.ms.at hr).le (by omega),λ q r _ hr=>h.ms.at hr,h.ms.at ht,h.bl,λ q r h1 h2 _=>absurd h1 (by omega),λ u D hD=>by
  rw[show P.length+1-P.length-1=0 by omega,Rat.pow_zero,Rat.pow_zero,Rat.mul_one,Rat.mul_one];exact h.dt u D hD⟩
theorem O9.step {t r:List Rat} {i:Nat} (h:O9 m0 K W bj P c odd l t m i) (hi:P.length<i) (hr:m[i]? = some r):O9 m0 K W bj P c odd l t (m.set i (comb (t.getD c 0) (r.getD c 0) l r t)) (i+1):=by
 have u7:=(zS hr).1;have hl:r.length=t.length:=by rw[h.w6.lr r (zM hr),h.w6.lr t (zM h.ht)]
 have hg : ∀ j,(comb (t.getD c 0) (r.getD c 0) l r t).getD j 0=(r.getD j 0*t.getD c 0-t.getD j 0*r.getD c 0)/l:=bG hl;have dz : ∀ (q:Nat) (x:List Rat),(m.set i (comb (t.getD c 0) (r.getD c 0) l r t))[q]? = some x->(q=i/\x=comb (t.getD c 0) (r.getD c 0) l r t)\/(q≠i/\m[q]? = some x):=λ q x hx=>by
  rw[List.getElem?_set]at hx;by_cases e:i=q
  ·rw[if_pos e,if_pos u7]at hx
   exact Or.inl ⟨e.symm,(Option.some.inj hx).symm⟩
  ·rw[if_neg e]at hx
   exact Or.inr ⟨Ne.symm e,hx⟩
 have Eb:=h.hi i r (Nat.le_refl i) hr;have htc:Bt (6^P.length*K) (t.getD c 0):=by
  have:Ms (6^P.length*K) [t]:=λ x hx=>by obtain rfl:=List.mem_singleton.1 hx;exact h.bt
  exact this.getD 0 c
 have vo:Bt (6^P.length*K) (r.getD c 0):=by
  have:Ms (6^P.length*K) [r]:=λ x hx=>by obtain rfl:=List.mem_singleton.1 hx;exact Eb
  exact this.getD 0 c
 have cp : ∀ j,j<=c->(comb (t.getD c 0) (r.getD c 0) l r t).getD j 0=0:=λ j hj=>by
  rw[hg];by_cases e:j=c
  ·subst e;rw[Rat.div_def];grind
  ·rw[h.w6.zr i r (by omega) hr j (by omega),h.w6.zr P.length t (Nat.le_refl _) h.ht j (by omega),Rat.div_def];grind
 refine ⟨⟨λ x hx => ?_,by simpa using h.w6.pl,h.w6.inc,h.w6.pb,λ q p x hp hx => ?_,λ q x hq hx j hj => ?_⟩,by simpa using h.len,h.cc,h.l0,λ X=>(AeL hr h.ht (by omega) hl h.nt h.l0 X).trans (h.jv X),?_,h.nt,λ q x hq hx => ?_,λ q x hq hx => ?_,h.bt,h.bl,λ q x h1 h2 hx => ?_,λ u D hD => ?_⟩
 ·rcases OT hx with rfl|⟨j,_,hj⟩
  ·rw[kV hl];exact h.w6.lr r (zM hr)
  ·exact h.w6.lr x (zM hj)
 ·have vn:=(zS hp).1
  rcases dz q x hx with ⟨rfl,_⟩|⟨_,hx⟩
  ·omega
  ·exact h.w6.nz q p x hp hx
 ·rcases dz q x hx with ⟨rfl,rfl⟩|⟨_,hx⟩
  ·exact cp j (by omega)
  ·exact h.w6.zr q x hq hx j hj
 ·rw[List.getElem?_set,if_neg (by omega)];exact h.ht
 ·rcases dz q x hx with ⟨rfl,rfl⟩|⟨k9,hx⟩
  ·exact Eb.comb h.bt htc vo h.bl
  ·exact h.lo q x (by omega) hx
 ·rcases dz q x hx with ⟨rfl,rfl⟩|⟨k9,hx⟩
  ·omega
  ·exact h.hi q x (by omega) hx
 ·rcases dz q x hx with ⟨rfl,rfl⟩|⟨k9,hx⟩
  ·exact cp c (Nat.le_refl c)
  ·exact h.z q x h1 (by omega) hx
 ·have hd:=h.dt u D hD
  have El:=Rat.div_mul_cancel h.l0 (a:=t.getD c 0);rw[hD.ad m i P.length r t _ _ l h.len h.w6.lr hr h.ht (by omega) h.l0,Y6 _ _ _ _ (by omega),show i+1-P.length-1=(i-P.length-1)+1 by omega,Rat.pow_succ,Rat.pow_succ];rw[show D m*(t.getD c 0/l)*l*(l^(i-P.length-1)*l)=D m*l*l^(i-P.length-1)*(t.getD c 0/l*l) by grind,hd,El,Rat.mul_assoc]
theorem rT (hK:1<=K) (p:Nat):5*(6^p*K)+1<=6^(p+1)*K:=by
 have h1:1<=6^p*K:=Nat.mul_pos (Nat.pow_pos (by omega)) hK;have e:6^(p+1)*K=6*(6^p*K):=by rw[Nat.pow_succ,Nat.mul_comm (6^p) 6,Nat.mul_assoc]
 omega
theorem eU {p n B:Nat} (h:6^n*K<=B) (hp:p<=n):6^p*K<=B :=
 Nat.le_trans (Nat.mul_le_mul_right K (Nat.pow_le_pow_right (by omega) hp)) h
theorem O9.done {t:List Rat} {i:Nat} (hK:1<=K) (h:O9 m0 K W bj P c odd l t m i) (hi:i=m.length):GU m0 K W bj m (P++[c]) (c+1) odd (t.getD c 0):=by
 have e:(P++[c]).length=P.length+1:=by simp
 have h6:=rT hK P.length;refine ⟨h.w6.Gp h.ht h.nt λ q r hq hr=>h.z q r hq (hi ▸ (zS hr).1) hr,h.len,h.cc,h.nt,h.jv,?_,?_,λ u D hD => ?_⟩
 ·rw[e]
  intro r hr;obtain ⟨q,hq⟩:=List.getElem?_of_mem hr;exact (h.lo q r (hi ▸ (zS hq).1) hq).le h6
 ·rw[e]
  have:Ms (6^P.length*K) [t]:=λ x hx=>by obtain rfl:=List.mem_singleton.1 hx;exact h.bt
  exact (this.getD 0 c).le (by omega)
 ·have hd:=h.dt u D hD
  have ry:=(zS h.ht).1;have hlen:=h.len;rw[rN c t m P h.ht,e];rw[hi,hlen,show m0.length-P.length=(m0.length-P.length-1)+1 by omega,Rat.pow_succ,Nat.add_sub_cancel]at hd;rw[show m0.length-(P.length+1)=m0.length-P.length-1 by omega];have hp:=rV h.l0 (m0.length-P.length-1);generalize l^(m0.length-P.length-1)=x at *;generalize t.getD c 0=p at *;generalize p^(m0.length-P.length-1)=y at *;have h0:=h.l0;have h1:D m=WI odd*D m0*H6 m P*y:=Afe (c:=l*x) (λ e=>by
   rcases Rat.mul_eq_zero.1 e with e|e
   ·exact h0 e
   ·exact hp e) (by grind)
  rw[h1];grind
end
def ER (c:Nat) (l:Rat):List (List Rat)->Nat->List Rat
 | [],_=>[]
 | r::m,i=>(r.getD c 0*l-A3 (r.drop (i+1)) (ER c l m (i+1)))/r.getD i 0::ER c l m (i+1)
theorem PA (c:Nat) (l:Rat) : ∀ (m:List (List Rat)) (i:Nat),(ER c l m i).length=m.length
 | [],_=>rfl
 | r::m,i=>by rw[ER,List.length_cons,PA c l m (i+1),List.length_cons]
theorem Vk (r:List Rat) (i:Nat) (h:i<r.length):r.drop i=r.getD i 0::r.drop (i+1):=by
 rw[List.drop_eq_getElem_cons h,List.getD_eq_getElem?_getD,zE h];rfl
theorem jT (c:Nat) (l:Rat) : ∀ (m:List (List Rat)) (i k:Nat) (r:List Rat),m[k]? = some r->i+k<r.length->r.getD (i+k) 0≠0->A3 (r.drop (i+k)) ((ER c l m i).drop k)=r.getD c 0*l
 | q::m,i,0,r,h,hl,h0=>by
  obtain rfl:q=r:=by simpa using h
  rw[Nat.add_zero]at hl h0 ⊢;rw[Vk q i hl,ER,List.drop_zero,A3];have:=Rat.div_mul_cancel h0 (a:=q.getD c 0*l-A3 (q.drop (i+1)) (ER c l m (i+1)))
  grind
 | q::m,i,k+1,r,h,hl,h0=>by
  rw[ER,List.drop_succ_cons,show i+(k+1)=i+1+k by omega];exact jT c l m (i+1) k r (by simpa using h) (by omega) (by rw[show i+1+k=i+(k+1) by omega];exact h0)
 | [],_,_,_,h,_,_=>by simp at h
theorem mC : ∀ (i:Nat) (r x:List Rat),(∀ j,j<i->r.getD j 0=0)->A3 r x=A3 (r.drop i) (x.drop i)
 | 0,_,_,_=>rfl
 | i+1,[],x,_=>by simp [A3]
 | i+1,r::rs,[],_=>by rw[S9,List.drop_nil,S9]
 | i+1,r::rs,x::xs,h=>by
  have h0:r=0:=by simpa using h 0 (by omega)
  rw[A3,h0,Rat.zero_mul,Rat.zero_add,List.drop_succ_cons,List.drop_succ_cons];exact mC i rs xs λ j hj=>by simpa using h (j+1) (by omega)
theorem zY {c n:Nat} {l:Rat} {m:List (List Rat)} (hn : ∀ r∈m,n<=r.length) (hm:m.length=n) (ht:SV (A0 m) n) (r:List Rat) (hr:r∈m):A3 r (ER c l m 0)=r.getD c 0*l:=by
 obtain ⟨k,hk⟩:=List.getElem?_of_mem hr;have nj:=(zS hk).1;have h1:=ht k (by omega);have h2:=jT c l m 0 k r hk (by have:=hn r hr;omega) (by rw[Nat.zero_add,<-JW hk];exact h1.1);rw[mC k r _ λ j hj=>by rw[<-JW hk];exact h1.2 j hj,<-h2,Nat.zero_add]
def E8 (S n:Nat):Nat->Nat
 | 0=>0
 | t+1=>3*S+n*(S+E8 S n t+1)
theorem aX (S n:Nat) : ∀ t,E8 S n t<=E8 S n (t+1)
 | 0=>Nat.zero_le _
 | t+1=>by
  rw[E8,E8];have:=Nat.mul_le_mul_left n (show S+E8 S n t+1<=S+E8 S n (t+1)+1 by have:=aX S n t;omega)
  omega
theorem kB (S n:Nat) {t u:Nat} (h:t<=u):E8 S n t<=E8 S n u:=by
 obtain ⟨d,rfl⟩:=Nat.exists_eq_add_of_le h;induction d with
 | zero=>exact Nat.le_refl _
 | succ d ih=>exact Nat.le_trans (ih (by omega)) (aX S n (t+d))
theorem mF {k l:Nat} {a b:List Rat} (ha:Bs k a) (hb:Bs l b) {n:Nat} (hn:b.length<=n):Bt (n*(k+l+1)) (A3 a b):=by
 rw[KO];exact (hb.dot ha).le (Nat.le_trans (Nat.mul_le_mul_right _ hn) (Nat.le_of_eq (by rw[Nat.add_comm l k])))
theorem XU {S n c:Nat} {l:Rat} (hl:Bt S l) : ∀ (m:List (List Rat)) (i:Nat),m.length<=n->Ms S m->Bs (E8 S n m.length) (ER c l m i)
 | [],_,_,_=>λ x hx=>by cases hx
 | r::m,i,hn,hm=>by
  have ih:=XU (c:=c) (n:=n) hl m (i+1) (by rw[List.length_cons]at hn;omega) (λ q hq=>hm q (List.mem_cons_of_mem _ hq));have hr:Bs S r:=hm r List.mem_cons_self;have hg : ∀ j,Bt S (r.getD j 0):=λ j=>by
   have:Ms S [r]:=λ x hx=>by obtain rfl:=List.mem_singleton.1 hx;exact hr
   exact this.getD 0 j
  have h1:=mF (k:=S) (a:=r.drop (i+1)) (λ x hx=>hr x (List.mem_of_mem_drop hx)) ih (n:=n-1) (by rw[PA];rw[List.length_cons]at hn;omega);have h2:=(((hg c).mul hl).lf h1).td (hg i);rw[List.length_cons];intro x hx;rw[ER]at hx;rcases List.mem_cons.1 hx with rfl|hx
  ·refine h2.le ?_
   rw[E8];obtain ⟨k,rfl⟩ : ∃ k,n=k+1:=⟨n-1,by rw[List.length_cons]at hn;omega⟩;have e:=Nat.succ_mul k (S+E8 S (k+1) m.length+1);rw[Nat.succ_eq_add_one]at e;rw[Nat.add_sub_cancel];omega
  ·exact (ih x hx).le (aX S n m.length)
end Go.c5

namespace Go.c5
open F
attribute [local irreducible] AA AF AM AC CI AW AX A5 A6 B3 AQ BS B7 C5 BQ A2 BO B9 AB A9 AJ pw BN BG CH CM CT CP CE BU CK
variable {L:Lib}
set_option maxHeartbeats 16000000
def cw (n:Nat) (v:List Rat):List (Option Rat):=List.replicate (n-v.length) none++v.map some
theorem lD {n:Nat} {v:List Rat} (h:v.length<=n):(cw n v).length=n:=by simp [cw];omega
theorem Sv (n:Nat):cw n []=List.replicate n none:=by simp [cw]
theorem Ss {n s:Nat} {v:List Rat} {x:Rat} (h:v[s]? = some x):(cw n v)[n-v.length+s]? = some (some x):=by
 rw[cw,List.getElem?_append_right (by simp),List.length_replicate,Nat.add_sub_cancel_left,List.getElem?_map,h];rfl
theorem Sw {n:Nat} {v:List Rat} {x:Rat} (h:v.length<n):(cw n v).set (n-(v.length+1)) (some x)=cw n (x::v):=by
 obtain ⟨k,hk⟩ : ∃ k,n-v.length=k+1:=⟨n-v.length-1,by omega⟩;have e:n-(v.length+1)=k:=by omega
 simp only[cw,hk,List.length_cons,e];rw[List.replicate_succ',List.append_assoc,List.set_append_right _ _ (by simp),List.length_replicate,Nat.sub_self];rfl
theorem Su {n:Nat} {v:List Rat} (h:v.length=n):(cw n v).map eO=v.map eQ:=by
 simp [cw,h,Function.comp_def]
theorem QK {l:List Rat} {i:Nat} (h:i<l.length):l[i]? = some (l.getD i 0):=by
 rw[List.getD_eq_getElem?_getD,zE h];rfl
theorem Yt (N:u4 L) (q q':Bool) (m:List (List Rat)) (n W c S:Nat) (l:Rat) (hm:m.length=n) (hW : ∀ r∈m,r.length=W) (hn:1<=n/\n<=1000) (hnW:n<=W) (hc:c<W) (Jo:W<=100000)
  (hd : ∀ (k:Nat) (r:List Rat),m[k]? = some r->r.getD k 0≠0) (kb:Ms S m) (hl:Bt S l) (hB:E8 S n n<2199023255552):Ev L 234 [.sl q (CX q' m),.int .i64 c,.agg (eQ l)] (.sl false ((ER c l m 0).map eQ)):=by
 have hS:S<2199023255552:=by
  have:=kB S n (show 1<=n by omega)
  rw[E8]at this;omega
 refine Ev.x N.K3 rfl rfl ?_;(repeat' ((first|apply AR|apply AD)<;>conv=>whnf))
 refine EX (enc:=eO) none n rfl (by omega) (by omega) ?_;(conv=>whnf)
 (repeat' ((first|(apply B6;omega)|apply AR)<;>conv=>whnf))
 rw[hm];refine BR (λ k=>k) (λ(k:Nat)=>k<=n) (λ k=>[(8,.int .i64 ((k:Int)-1))]) (λ k=>[(13,13,.rw 3 ((cw n (ER c l (m.drop k) k)).map eO))]) [] [] n (by first|exact (by (conv=>whnf);exact ⟨rfl,rfl,rfl⟩)|(rw[List.drop_of_length_le (by omega),ER,Sv];exact (by (conv=>whnf);exact ⟨rfl,rfl,rfl⟩))) (by omega) ?_;intro k p1 kh;rcases k with _|k
 ·clear kh
  rw[List.drop_zero,Su (by rw[PA];exact hm)];(repeat' ((first|(apply AG<;>intro hc<;>try (exfalso;omega))|apply AD)<;>conv=>whnf))
  refine DL (enc:=eQ) (λ_=>rfl) rfl (by rw[PA];omega) ?_;(conv=>whnf)
  exact AZ rfl (by simp only[A4,true_and];exact JY _)
 ·obtain ⟨r,hr⟩ : ∃ r,m[k]? = some r:=⟨_,zE (by omega)⟩
  have iz:m[(k:Int).toNat]? = some r:=hr;have bp:=hW r (zM hr);have e1:((k+1:Nat):Int)-1=k:=by omega
  have hv:ER c l (m.drop k) k=(r.getD c 0*l-A3 (r.drop (k+1)) (ER c l (m.drop (k+1)) (k+1)))/r.getD k 0::ER c l (m.drop (k+1)) (k+1):=by
   obtain ⟨h1,h2⟩:=zS hr;rw[List.drop_eq_getElem_cons h1,ER,h2]
  have ju:(ER c l (m.drop (k+1)) (k+1)).length=n-(k+1):=by rw[PA,List.length_drop,hm]
  have re:Bs (E8 S n (n-(k+1))) (ER c l (m.drop (k+1)) (k+1)):=by
   have:=XU (c:=c) (n:=n) hl (m.drop (k+1)) (k+1) (by rw[List.length_drop];omega) (λ r hr=>kb r (List.mem_of_mem_drop hr))
   rwa [List.length_drop,hm]at this
  have Ir:E8 S n (n-(k+1)+1)<=E8 S n n:=kB S n (by omega);rw[E8]at Ir;have ic:=kb.at hr;have vo:r[(c:Int).toNat]? = some (r.getD c 0):=QK (by omega);have Cu:r[(k:Int).toNat]? = some (r.getD k 0):=QK (by omega);have Lw:=hd k r hr;have bc:=ic.at vo;have bk:=ic.at Cu;have hM:=GY N.toa8 bc hl hS hS;generalize ml:r.getD c 0=rc at *;generalize AmA:r.getD k 0=rk at *;generalize ER c l (m.drop (k+1)) (k+1)=v at *;generalize E8 S n (n-(k+1))=X at *;rw[e1];(repeat' ((first|(apply AG<;>intro hc<;>try (exfalso;omega))|(apply AU;omega)|(refine BC (by assumption) ?_ rfl ?_;omega)|apply AD|refine AE (hM) ?_)<;>conv=>whnf))
  refine F3 (λ s _=>n-s) (λ(s:Nat) (acc:Rat)=>k+1+s<=n/\acc=rc*l-A3 ((r.drop (k+1)).take s) (v.take s)) (λ s _=>[(10,.int .i64 ((k+1+s:Nat):Int))]) (λ_ acc=>[(9,9,.bx (eQ acc))]) [] [] 0 (rc*l) (by (conv=>whnf);exact ⟨rfl,rfl,rfl⟩) ⟨by omega,by simp only[List.take_zero,A3];grind⟩ ?_;intro s acc ⟨p2,p3⟩ sh;have gk:Bt (2*S+(n-(k+1))*(S+X+1)+1) acc:=by
   rw[p3];have h1:=mF (k:=S) (l:=X) (a:=(r.drop (k+1)).take s) (b:=v.take s) (n:=n-(k+1)) (λ x hx=>ic x (List.mem_of_mem_drop (List.mem_of_mem_take hx))) (re.take s) (by rw[List.length_take];omega);exact ((bc.mul hl).lf h1).le (by omega)
  have hmul:=Nat.mul_le_mul_right (S+X+1) (show n-(k+1)+1<=n by omega);rw[Nat.add_mul,Nat.one_mul]at hmul;have hX:X<2199023255552:=by
   have:=Nat.le_mul_of_pos_left (S+X+1) (show 0<n by omega)
   omega
  by_cases hs:k+1+s<n
  ·obtain ⟨x,hx⟩ : ∃ x,v[s]? = some x:=⟨_,zE (by omega)⟩
   obtain ⟨y,hy⟩ : ∃ y,r[k+1+s]? = some y:=⟨_,zE (by omega)⟩;have rf:r[((k+1+s:Nat):Int).toNat]? = some y:=hy;have Cz:(r.drop (k+1))[s]? = some y:=by rw[List.getElem?_drop];exact hy
   have lq:=Ss (n:=n) hx;rw[ju,show n-(n-(k+1))+s=k+1+s by omega]at lq;have m8:=lD (n:=n) (v:=v) (by omega);have Cd:=ic.at hy
   have bx:=re.at hx;have cr:=GY N.toa8 Cd bx hS hX
   have Dx:=YJ N.tov5 gk (Cd.mul bx) (by omega) (by
    have:=Nat.le_mul_of_pos_left (S+X+1) (show 0<n-(k+1) by omega)
    omega)
   have Kh:=U4 Cz hx;generalize cw n v=C at *;(repeat' ((first|(apply AG<;>intro hc<;>try (exfalso;omega))|(apply AY;omega)|apply AR|(refine BC (by assumption) ?_ rfl ?_;omega)|apply AD)<;>conv=>whnf))
   refine SP (enc:=eO) (e:=some x) (by rw[Nat.zero_add];exact lq) rfl ?_;(conv=>whnf)
   (repeat' ((first|(apply AU;omega)|refine AE (cr) ?_|refine AE (Dx) ?_)<;>conv=>whnf))
   refine BZ [] (by (conv=>whnf);exact ⟨rfl,rfl,rfl⟩) (sh (s+1) (acc-y*x) (by omega) ⟨by omega,?_⟩);rw[Kh,p3];grind
  ·obtain rfl:s=n-(k+1):=by omega
   clear sh;have Kh:acc=rc*l-A3 (r.drop (k+1)) v:=by
    rw[p3,KO,S8 ju,KO]
   have hD:=YG N.toa8 gk bk (by omega) hS Lw;have gv:=Sw (n:=n) (v:=v) (x:=acc/rk) (by omega);rw[ju,show n-(n-(k+1)+1)=k by omega]at gv;have m8:=lD (n:=n) (v:=v) (by omega);rw[<-Kh]at hv;rw[<-hv]at gv;generalize cw n v=C at *;(repeat' ((first|(apply AG<;>intro hc<;>try (exfalso;omega))|(apply AY;omega)|apply AR|(refine BC (by assumption) ?_ rfl ?_;omega)|apply AD|refine AE (hD) ?_)<;>conv=>whnf))
   refine FW (enc:=eO) (some (acc/rk)) rfl (λ e=>by cases e<;>rfl) (by omega) ?_;(conv=>whnf)
   rw[gv];(repeat' ((first|(apply B6;omega)|fail)<;>conv=>whnf))
   exact BF [] (kh k (by omega) (by omega))
end Go.c5

namespace Go.c5
variable {L:Lib}
def J6:BI->Bool
 | .ret=>false
 | .dr c _ _=>J6 c
 | .scope c=>J6 c
 | .seq a b=>J6 a&&J6 b
 | .cond _ a b=>J6 a&&J6 b
 | .block _ c=>J6 c
 | .loop c=>J6 c
 | _=>true
def J7:It->Bool
 | .code c=>J6 c
 | .lp c=>J6 c
 | _=>true
theorem VJ {id:Nat} {kk:List It} : ∀ {l l':List It},DW id l=some l'->DW id (l++kk)=some (l'++kk)
 | [],_,h=>by cases h
 | .e8 i::l,l',h=>by
  simp only[List.cons_append,DW]at h ⊢;split at h
  ·rename_i e;rw[if_pos e];cases h;rfl
  ·rename_i e;rw[if_neg e];exact VJ h
 | .code c::l,l',h=>by
  simp only[List.cons_append,DW]at h ⊢;exact VJ h
 | .jx a b::l,l',h=>by
  simp only[List.cons_append,DW]at h ⊢;exact VJ h
 | .lp c::l,l',h=>by
  simp only[List.cons_append,DW]at h ⊢;exact VJ h
theorem VI {id:Nat} {p:It->Bool} : ∀ {l l':List It},DW id l=some l'->l.all p=true->l'.all p=true
 | [],_,h,_=>by cases h
 | .e8 i::l,l',h,ha=>by
  simp only[DW]at h;simp only[List.all_cons,Bool.and_eq_true]at ha;split at h
  ·cases h;exact ha.2
  ·exact VI h ha.2
 | .code c::l,l',h,ha=>by
  simp only[DW]at h;simp only[List.all_cons,Bool.and_eq_true]at ha;exact VI h ha.2
 | .jx a b::l,l',h,ha=>by
  simp only[DW]at h;simp only[List.all_cons,Bool.and_eq_true]at ha;exact VI h ha.2
 | .lp c::l,l',h,ha=>by
  simp only[DW]at h;simp only[List.all_cons,Bool.and_eq_true]at ha;exact VI h ha.2
theorem IU {C:Cl} {kk:List It} {m:Nat} {BA BV:St} (hk:run C m kk BA=some BV) : ∀ (n:Nat) (l:List It) (st:St),l.all J7=true->run C n l st=some BA->run C (n+m) (l++kk) st=some BV
 | 0,_,_,_,h=>by cases h
 | n+1,[],st,_,h=>by
  simp only[run,Option.some.injEq]at h;subst h;exact JJ (C:=C) (C':=C) ⟨λ_ _ _ h=>h,λ_ _ _ _ h=>h,rfl⟩ (by omega) hk
 | n+1,.e8 i::l,st,ha,h=>by
  simp only[List.all_cons,Bool.and_eq_true]at ha;rw[show n+1+m=n+m+1 by omega];simp only[List.cons_append,run]at h ⊢;exact IU hk n l st ha.2 h
 | n+1,.jx ts ss::l,st,ha,h=>by
  simp only[List.all_cons,Bool.and_eq_true]at ha;rw[show n+1+m=n+m+1 by omega];simp only[List.cons_append,run]at h ⊢;exact IU hk n l _ ha.2 h
 | n+1,.lp c::l,st,ha,h=>by
  rw[show n+1+m=n+m+1 by omega];simp only[List.cons_append,run]at h ⊢;exact IU hk n (.code c :: .lp c::l) st (by simp only[List.all_cons,J7,Bool.and_eq_true]at ha ⊢;exact ⟨ha.1,ha.1,ha.2⟩) h
 | n+1,.code c::l,st,ha,h=>by
  simp only[List.all_cons,J7,Bool.and_eq_true]at ha;obtain ⟨h1,h2⟩:=ha;rw[show n+1+m=n+m+1 by omega];cases c with
  | ret=>cases h1
  | skip =>
   simp only[List.cons_append,run]at h ⊢;exact IU hk n l st h2 h
  | ops o d =>
   simp only[List.cons_append,run]at h ⊢;cases hs:DB C o st with
   | none=>rw[hs]at h;cases h
   | some s'=>rw[hs]at h;exact IU hk n l s' h2 h
  | dr c ts ss =>
   simp only[List.cons_append,run]at h ⊢;exact IU hk n (.code c :: .jx ts ss::l) st (by simp only[List.all_cons,J7,Bool.and_eq_true];exact ⟨h1,trivial,h2⟩) h
  | scope c =>
   simp only[List.cons_append,run]at h ⊢;exact IU hk n (.code c::l) st (by simp only[List.all_cons,J7,Bool.and_eq_true];exact ⟨h1,h2⟩) h
  | seq a b =>
   simp only[J6,Bool.and_eq_true]at h1;simp only[List.cons_append,run]at h ⊢;exact IU hk n (.code a :: .code b::l) st (by simp only[List.all_cons,J7,Bool.and_eq_true];exact ⟨h1.1,h1.2,h2⟩) h
  | cond x a b =>
   simp only[J6,Bool.and_eq_true]at h1;simp only[List.cons_append,run]at h ⊢;split at h
   ·exact IU hk n (.code a::l) st (by simp only[List.all_cons,J7,Bool.and_eq_true];exact ⟨h1.1,h2⟩) h
   ·exact IU hk n (.code b::l) st (by simp only[List.all_cons,J7,Bool.and_eq_true];exact ⟨h1.2,h2⟩) h
   ·cases h
  | block i c =>
   simp only[List.cons_append,run]at h ⊢;exact IU hk n (.code c :: .e8 i::l) st (by simp only[List.all_cons,J7,Bool.and_eq_true];exact ⟨h1,trivial,h2⟩) h
  | loop c =>
   simp only[List.cons_append,run]at h ⊢;exact IU hk n (.code c :: .lp c::l) st (by simp only[List.all_cons,J7,Bool.and_eq_true];exact ⟨h1,h1,h2⟩) h
  | exit i =>
   simp only[List.cons_append,run]at h ⊢;cases he:DW i l with
   | none=>rw[he]at h;cases h
   | some l' =>
    rw[he]at h;rw[VJ he];exact IU hk n l' st (VI he h2) h
theorem SG {l kk:List It} {tm:Tm} {M:Mem} {Q:Tm->Mem->Prop} (hn:l.all J7=true) (h:AA L l tm M (λ tm M=>AA L kk tm M Q)):AA L (l++kk) tm M Q:=by
 intro σ st hr;obtain ⟨n,c,BA,h1,σ1,Rr,M1,w8,h2⟩:=h σ st hr;obtain ⟨m,c2,BV,h3,h4⟩:=h2 σ1 BA w8;obtain ⟨c3,g1,g2⟩ : ∃ c3,(C3 L c).le (C3 L c3)/\(C3 L c2).le (C3 L c3):=⟨max c c2,E9 (Nat.le_max_left _ _),E9 (Nat.le_max_right _ _)⟩;exact ⟨n+m,c3,BV,IU (JJ g2 (Nat.le_refl _) h3) n l st hn (JJ g1 (Nat.le_refl _) h1),h4⟩
structure W5 (p:Prop):Prop where
 go ::
 out:p
theorem vI {α β γ:Type} {l kk:List It} {tm:Tm} {M:Mem} {Q:Tm->Mem->Prop} (P:α->β->γ->Prop) (vs:α->β->γ->Tm) (Ms:α->β->γ->Mem) (ts:List Nat) (hn:l.all J7=true)
  (hr : ∀ a b c,P a b c->AA L kk (vs a b c++w9 ts tm) (Ms a b c++M) Q)
  (h:(∀ a b c,P a b c->AA L kk (vs a b c++w9 ts tm) (Ms a b c++M) Q)->AA L l tm M (λ tm M=>W5 (AA L kk tm M Q))):AA L (l++kk) tm M Q:=by
 refine SG hn ?_;intro σ st hs;obtain ⟨n,c,BA,h1,σ1,Rr,M1,w8,h2⟩:=h hr σ st hs;exact ⟨n,c,BA,h1,σ1,Rr,M1,w8,h2.out⟩
end Go.c5

namespace Go.c5
open F
attribute [local irreducible] AA AF AM AC CI AW AX A5 A6 B3 AQ BS B7 C5 BQ A2 BO B9 AB A9 AJ pw BN BG CH CM CT CP CE BU CK
variable {L:Lib}
set_option maxHeartbeats 16000000
theorem bP:dg 1=[1]:=by rw[IM (by decide)];simp [EY]
theorem Xf (N:a8 L) {s:Rat} {a l d:Nat} (q:Bool) (hs:Bt a s) (hd:d<=2^l) (ha:a<2199023255552) (hl:l<2199023255552):Ev L 99 [.agg (eQ s),.agg [.bool false,.sl false ((dg d).map AL),.sl q [[.int .u32 1]]]] (.agg (eQ (s*((d:Nat):Rat)))):=by
 have ni:Bt l ((d:Nat):Rat):=⟨by simpa using hd,by simpa using Nat.one_le_two_pow⟩;have e:=EJ ((d:Nat):Rat);have h1:=(ni.sm hl).1;have h2:=(ni.sm hl).2;rw[Rat.num_natCast,Rat.den_natCast,Int.natAbs_natCast,show decide ((d:Int)<0)=false by simp,bP]at e;rw[Rat.num_natCast,Int.natAbs_natCast]at h1;rw[Rat.den_natCast,bP]at h2;have h:=cM N 68719476736 (by omega) (decide (s.num<0)) false false false false q _ _ (dg d) [1] (hs.sm ha).1 (hs.sm ha).2 h1 h2;rw[EJ,e]at h;exact h
theorem vA {N i k:Nat} (hk:k<N) : ∀ t,t∈(List.range N).set i k->t<N:=λ t ht=>by
 rcases List.mem_or_eq_of_mem_set ht with h|h
 ·exact List.mem_range.1 h
 ·omega
theorem PO {z:Nat} {m:List (List Rat)} {i:Nat} {r:List Rat} (h:m[i]? = some r):(BJ z eQ m)[i]? = some (some (z,r.map eQ)):=by
 rw[BJ,List.getElem?_map,h];rfl
theorem qQ {z:Nat} {m:List (List Rat)} {i j:Nat} {a b:List Rat}:((BJ z eQ m).set i (some (z,b.map eQ))).set j (some (z,a.map eQ))=BJ z eQ ((m.set i b).set j a):=by
 simp only[BJ,List.map_set]
theorem W4 {R:List (Option (Nat × List (List AV)))} {e z:Nat} {es:List (List AV)} {K:Nat->List (List AV)->Prop} (h:R[e]? = some (some (z,es))) (hk:K z es):BG R e K:=by
 unfold BG;exact ⟨z,es,h,hk⟩
theorem gB {α:Type} {l:List α} {i:Nat} {x:α} (h:l[i]? = some x):l.set i x=l:=by
 obtain ⟨h1,rfl⟩:=zS h;exact List.set_getElem_self h1
theorem Ae3 {a b:List Rat} {c:Nat} (hl:a.length=b.length) (h : ∀ j,j<c->a.getD j 0=0/\b.getD j 0=0):a.take c++b.drop c=b:=by
 have e:a.take c=b.take c:=by
  refine List.ext_getElem? λ j => ?_
  rw[List.getElem?_take,List.getElem?_take];by_cases hj:j<c
  ·rw[if_pos hj,if_pos hj]
   obtain ⟨h1,h2⟩:=h j hj;rw[List.getD_eq_getElem?_getD]at h1 h2;by_cases fj:j<a.length
   ·rw[zE fj,zE (by omega)]at *
    simp only[Option.getD_some]at h1 h2;rw[h1,h2]
   ·rw[List.getElem?_eq_none (by omega),List.getElem?_eq_none (by omega)]
  ·rw[if_neg hj,if_neg hj]
 rw[e,List.take_append_drop]
theorem Ae1 {a b:List Rat} {j:Nat} {x:Rat} (hl:a.length=b.length) (hx:b[j]? = some x):(a.take j++b.drop j)[j]? = some x:=by
 have h1:=(zS hx).1;have ht:(a.take j).length=j:=by rw[List.length_take];omega
 rw[List.getElem?_append_right (by omega),ht,Nat.sub_self,List.getElem?_drop];exact hx
theorem Ae2 {a b:List Rat} {j:Nat} {y:Rat} (hl:a.length=b.length) (hy:a[j]? = some y):(a.take j++b.drop j).set j y=a.take (j+1)++b.drop (j+1):=by
 have h1:=(zS hy).1;have ht:(a.take j).length=j:=by rw[List.length_take];omega
 rw[List.set_append_right _ _ (by omega),ht,Nat.sub_self,List.drop_eq_getElem_cons (by omega),List.set_cons_zero,T9 hy,List.append_assoc];rfl
theorem mR {m0 m a b:List (List Rat)} {K n w c:Nat} {P:List Nat} {odd:Bool} {l:Rat} (hE:GU m0 K (n+w) n m P c odd l) (hs:UO m0 (CO a b)) (hl:a.length=b.length) (ha : ∀ r∈a,r.length=n) (z0:a.length=n) (fq:n<=c\/n<=P.length):P.length=n↔NS n a:=by
 have Kj:EC m (n+w) n P:=by
  have hc:=hE.cc;rcases fq with h|h
  ·obtain rfl:c=n:=by omega
   exact hE.w6
  ·have h1:=hE.w6.pl
   have h2:=hE.len;have h3:=hs.1;simp only[CO,List.length_zipWith]at h3;exact hE.w6.wide (by omega) hc
 exact AfL Kj (λ X=>(hE.jv X).trans (hs.jv X)) hl ha
def cC:Option (List Rat)->List AV
 | none=>[.nil]
 | some r=>[.sl false (r.map eQ)]
def JB (y:Nat->List Rat) (n w:Nat):List (List Rat):=(List.range n).map λ i:Nat=>(List.range w).map λ c=>(y c).getD i 0
theorem Adv {n:Nat} {l:List (List Rat)} (h:l.length=n):(fz none (l.map some) n).map cC=eM l:=by
 rw[TJ (by simpa using h),List.map_map];rfl
theorem tV {m0 m:List (List Rat)} {K n W c:Nat} {P:List Nat} {odd:Bool} {l:Rat} (hE:GU m0 K W n m P c odd l) (hP:P.length=n) (cu:m.length=n):SV (A0 m) n:=by
 have hc:c=n:=by have:=hE.w6.le;have:=hE.cc;omega
 subst hc;exact hE.w6.Nl λ i hi=>by
  obtain ⟨q,hq⟩ : ∃ q,P[i]? = some q:=⟨_,zE (by omega)⟩;rw[hq,hE.w6.diag hP i q hq]
theorem Agy {m0 m a b:List (List Rat)} {K n w c:Nat} {P:List Nat} {odd:Bool} {l:Rat} (hE:GU m0 K (n+w) n m P c odd l) (hs:UO m0 (CO a b)) (hl:a.length=b.length) (kn : ∀ r∈a,r.length=n) (qm : ∀ r∈b,r.length=w) (hP:P.length=n) (cu:m.length=n) :
  ∀ c',c'<w -> ∀ (i:Nat) (r s:List Rat),a[i]? = some r->b[i]? = some s->A3 r ((ER (n+c') l m 0).map (· / l))=s.getD c' 0:=by
 intro c' u5 i r s hr qy;have ht:=tV hE hP cu;have hlen:=hE.w6.lr;refine Tz (λ X=>(hE.jv X).trans (hs.jv X)) hl kn qm u5 (by rw[List.length_map,PA];exact cu) hlen (λ x hx => ?_) hr qy;have h1:=zY (c:=n+c') (l:=l) (λ r hr=>by rw[hlen r hr];omega) cu ht x hx;have ku:((ER (n+c') l m 0).map (· * l⁻¹)).length=n:=by rw[List.length_map,PA];exact cu
 rw[show ((ER (n+c') l m 0).map (· / l))=(ER (n+c') l m 0).map (· * l⁻¹) from List.map_congr_left λ z _=>Rat.div_def z l,KO,<-S8 ku,List.take_take,Nat.min_self,S8 ku,TA,KO,h1,Rat.mul_assoc,Rat.mul_inv_cancel _ hE.l0,Rat.mul_one]
theorem AgA (N:u4 L) (q q1 q2 q3:Bool) (a0 b0:List (List Rat)) (a:List (List Rat)) (n WW k:Nat) {K:Nat} (z0:a.length=n) (kn : ∀ r∈a,r.length=WW) (hn:1<=n/\n<=52) (hW:WW<=104) (gk:Ms k a) (qz : ∀ r∈a,∀ j,Bt K (C1 (r.take j))) (Es:k<=K) (Iz:K<=1000000000000) {kk:List It} {Q:Tm->Mem->Prop}
  (u9:AA L kk ([(5,.row 231019 0 3 0 n),(4,.row 231016 0 1 0 n)]++[(1000+43,.row 22 0 1 0 n),(1000+26,.bool false),(1000+25,.int .i64 n),(1000+24,.int .i64 n),(1000+7,.row 22 0 1 0 n),(1000+6,.int .i64 n),(1000+0,.sl q (CX q1 a0)),(1000+(0+1),.sl q2 (CX q3 b0))]) ([(231016,231016,.mx (BJ 3 eQ (whole a))),(231019,231019,.rw 3 ((a.map C1).map eQ))]++[(22,22,.rw 1 (eM a))]) Q) :
  AA L (.lp J2.l1 :: .e8 0::kk) ([(22,.int .i64 0),(21,.int .i64 n),(20,.row 22 0 1 0 n),(5,.row 231019 0 3 0 n),(4,.row 231016 0 1 0 n)]++[(1000+43,.row 22 0 1 0 n),(1000+26,.bool false),(1000+25,.int .i64 n),(1000+24,.int .i64 n),(1000+7,.row 22 0 1 0 n),(1000+6,.int .i64 n),(1000+0,.sl q (CX q1 a0)),(1000+(0+1),.sl q2 (CX q3 b0))]) ([(231016,231016,.mx (List.replicate n none)),(231019,231019,.rw 3 ((List.replicate n none).map eO))]++[(22,22,.rw 1 (eM a))]) Q:=by
 have hI:=I7 N.toa8 1 (by omega);refine SG (l:=[_,_]) rfl ?_;refine BR (λ i=>n-i) (λ(i:Nat)=>i<=n) (λ i=>[(22,.int .i64 i)]) (λ i=>[(231016,231016,.mx (mz (whole a) n i)),(231019,231019,.rw 3 ((EM ((a.map C1).take i) n).map eO))]) [] [] 0 (by first|exact (by (conv=>whnf);exact ⟨rfl,rfl,rfl⟩)|(rw[<-eF (whole a),List.take_zero,<-QF];exact (by (conv=>whnf);exact ⟨rfl,rfl,rfl⟩))) (by omega) ?_;intro i p1 ih;have Qt:=eC (Q:=whole a) p1;by_cases hi:i<n
 ·obtain ⟨r,hr⟩ : ∃ r,a[i]? = some r:=⟨_,zE (by omega)⟩
  have iz:a[(i:Int).toNat]? = some r:=hr;have bp:=kn r (zM hr);have ic:=gk.at hr;have j6:=eE (Q:=whole a) (i:=i) (n:=n) (row:=r.map (· * C1 r)) (by simp [whole,hr]) hi;have Mg:(a.map C1)[i]? = some (C1 r):=by simp [hr]
  generalize mz (whole a) n i=R0 at *;have Hs : ∀ j,Bt K (C1 (r.take j)):=qz r (zM hr);have Fz:=Hs WW;rw[List.take_of_length_le (by omega)]at Fz;(repeat' ((first|(apply AG<;>intro hc<;>try (exfalso;omega))|(apply AY;omega)|apply AR|(refine FU ?_ (λ_=>rfl) (λ v hv => ?_);omega)|apply AD|refine AE (hI) ?_)<;>conv=>whnf))
  try cases hr.symm.trans hv
  refine F3 (λ j _=>WW-j) (λ(j:Nat) (s:Rat)=>j<=WW/\s=C1 (r.take j)) (λ j _=>[(30,.int .i64 j)]) (λ_ s=>[(231008,231008,.bx (eQ s))]) [] [] 0 ((1:Int):Rat) (by (conv=>whnf);exact ⟨rfl,rfl,rfl⟩) ⟨by omega,by rw[List.take_zero];rfl⟩ ?_;intro j s ⟨p2,p3⟩ jh;by_cases hj:j<WW
  ·obtain ⟨x,hx⟩ : ∃ x,r[j]? = some x:=⟨_,zE (by omega)⟩
   have fm:r[(j:Int).toNat]? = some x:=hx;have Ga:Bt K s:=by rw[p3];exact Hs j
   have bx:=ic.at hx;have ay:=GY N.toa8 Ga bx (by omega) (by omega);have cr:=Xf N.toa8 true Ga (Ga.mul bx).2 (by omega) (by omega);have Bi:C1 (r.take (j+1))=s*(((s*x).den:Nat):Rat):=by rw[T9 hx,tC,<-p3];rfl
   (repeat' ((first|(apply AG<;>intro hc<;>try (exfalso;omega))|(apply AU;omega)|(refine BC (by assumption) ?_ rfl ?_;omega)|refine IL rfl ?_|apply AD|refine AE (ay) ?_|refine AE (cr) ?_)<;>conv=>whnf))
   exact BZ [] (by (conv=>whnf);exact ⟨rfl,rfl,rfl⟩) (jh (j+1) _ (by omega) ⟨by omega,Bi.symm⟩)
  have ej:j=WW:=by omega
  clear jh;rw[List.take_of_length_le (by omega)]at p3;subst p3;(repeat' ((first|(apply AG<;>intro hc<;>try (exfalso;omega))|apply AR|apply AD)<;>conv=>whnf))
  rw[bp];refine EX (enc:=eO) none WW rfl (by omega) (by omega) ?_;(conv=>whnf)
  (repeat' ((first|(apply AY;omega)|fail)<;>conv=>whnf))
  refine AY (by simp) ?_;refine SS (i:=i) (by omega) (by omega) ?_;(conv=>whnf)
  (repeat' (apply AR<;>conv=>whnf))
  refine BR (λ j=>WW-j) (λ(j:Nat)=>j<=WW) (λ j=>[(53,.int .i64 j)]) (λ j=>[(231016,231016,.mx (R0.set i (some (3,(EM ((r.map (· * C1 r)).take j) WW).map eO))))]) [] [] 0 (by first|exact (by (conv=>whnf);exact ⟨rfl,rfl,rfl⟩)|(rw[List.take_zero,<-QF];exact (by (conv=>whnf);exact ⟨rfl,rfl,rfl⟩))) (by omega) ?_;intro j r2 jh;have Br:((r.map (· * C1 r)).take j).length=j:=by rw[List.length_take,List.length_map];omega
  have Hl:=PJ (l:=(r.map (· * C1 r)).take j) (m:=WW) (by omega);by_cases hj:j<WW
  ·obtain ⟨x,hx⟩ : ∃ x,r[j]? = some x:=⟨_,zE (by omega)⟩
   have fm:r[(j:Int).toNat]? = some x:=hx;have bx:=ic.at hx;have ay:=GY N.toa8 bx Fz (by omega) (by omega);have hs:=QG (l:=(r.map (· * C1 r)).take j) (m:=WW) (x:=x*C1 r) (by omega);rw[Br,<-T9 (show (r.map (· * C1 r))[j]? = some (x*C1 r) by rw[List.getElem?_map,hx];rfl)]at hs;generalize EM ((r.map (· * C1 r)).take j) WW=W0 at *;(repeat' ((first|(apply AG<;>intro hc<;>try (exfalso;omega))|(apply AY;omega)|(refine BC (by assumption) ?_ rfl ?_;omega)|apply AD)<;>conv=>whnf))
   refine Q6 (by omega) (by omega) ?_;(conv=>whnf)
   (repeat' (refine AE (ay) ?_<;>conv=>whnf))
   refine AY (by rw[List.length_map];omega) ?_;(conv=>whnf)
   skip
   refine O4 (by omega) (by omega) ?_;(conv=>whnf)
   refine FW (enc:=eO) (some (x*C1 r)) rfl (λ e=>by cases e<;>rfl) (by omega) ?_;(conv=>whnf)
   rw[hs];refine XF (by omega) (by rw[List.length_map,List.length_map,<-hs,List.length_set]) ?_;(conv=>whnf)
   (repeat' ((first|(apply AU;omega)|fail)<;>conv=>whnf))
   exact BF [] (jh (j+1) (by omega) (by omega))
  have ej:j=WW:=by omega
  clear jh;rw[List.take_of_length_le (by rw[List.length_map];omega),QE (by rw[List.length_map];exact bp),j6];have se:((a.map C1).take i).length=i:=by rw[List.length_take,List.length_map];omega
  have hfi:=PJ (l:=(a.map C1).take i) (m:=n) (by omega);have gm:=QG (l:=(a.map C1).take i) (m:=n) (x:=C1 r) (by omega);rw[se,<-T9 Mg]at gm;generalize EM ((a.map C1).take i) n=W1 at *;(repeat' ((first|(apply AG<;>intro hc<;>try (exfalso;omega))|(apply AY;omega)|apply AD)<;>conv=>whnf))
  refine FW (enc:=eO) (some (C1 r)) rfl (λ e=>by cases e<;>rfl) (by omega) ?_;(conv=>whnf)
  rw[gm];(repeat' ((first|(apply AU;omega)|fail)<;>conv=>whnf))
  exact BF [] (ih (i+1) (by omega) (by omega))
 have ei:i=n:=by omega
 clear ih;rw[ei,eB (by simp [whole,z0]),List.take_of_length_le (by rw[List.length_map];omega),QE (by rw[List.length_map];exact z0)];(repeat' ((first|(apply AG<;>intro hc<;>try (exfalso;omega))|apply AD)<;>conv=>whnf))
 exact BZ [] (by (conv=>whnf);exact ⟨rfl,rfl,rfl⟩) u9
theorem Agz (N:u4 L) (q2 q3:Bool) (b0 jm:List (List Rat)) {m0 m1:List (List Rat)} {n cw WW K0 c:Nat} {P:List Nat} {o:Bool} {l:Rat} {rp:List Rat} (sc:List Rat) (qp:m0.length=n) (hn:1<=n/\n<=52) (hW:cw<=WW) (Jo:WW<=104) (yi:1<=K0) (hB:6^n*K0<=1000000000000) (hP:P.length<n) (nf:c<cw) (hS:O9 m0 K0 WW cw P c o l rp m1 (P.length+1)) {kk:List It} {Q:Tm->Mem->Prop}
  (u9 : ∀ m2,O9 m0 K0 WW cw P c o l rp m2 n->AA L kk ([(9,.bool o),(8,.int .i64 c),(7,.int .i64 (P.length:Nat)),(10,.ptr 233010 0 0 0),(5,.ptr 233005 0 0 0),(0,.row 231016 0 1 0 n),(0+1,.int .i64 cw)]++[(1000+49,.int .i64 n),(1000+48,.row 231016 0 1 0 n),(1000+9,.row 231016 0 1 0 n),(1000+6,.int .i64 n),(1000+(0+1),.sl q2 (CX q3 b0))]) ([(231016,231016,.mx (BJ 3 eQ m2)),(233010,233010,.bx (eQ l)),(233005,233005,.bx [.bool false,.nil,.nil])]++[(22,22,.rw 1 (eM jm)),(231019,231019,.rw 3 (sc.map eQ))]) Q) :
  AA L (.lp J1.l4 :: .e8 6::kk) ([(12,.int .i64 ((P.length+1:Nat):Int)),(9,.bool o),(8,.int .i64 c),(7,.int .i64 (P.length:Nat)),(10,.ptr 233010 0 0 0),(5,.ptr 233005 0 0 0),(0,.row 231016 0 1 0 n),(0+1,.int .i64 cw)]++[(1000+49,.int .i64 n),(1000+48,.row 231016 0 1 0 n),(1000+9,.row 231016 0 1 0 n),(1000+6,.int .i64 n),(1000+(0+1),.sl q2 (CX q3 b0))]) ([(231016,231016,.mx (BJ 3 eQ m1)),(233010,233010,.bx (eQ l)),(233005,233005,.bx [.bool false,.nil,.nil])]++[(22,22,.rw 1 (eM jm)),(231019,231019,.rw 3 (sc.map eQ))]) Q:=by
 refine SG (l:=[_,_]) rfl ?_;refine F3 (λ_ i=>n-i) (λ(m:List (List Rat)) (i:Nat)=>O9 m0 K0 WW cw P c o l rp m i/\P.length+1<=i/\i<=n) (λ_ i=>[(12,.int .i64 i)]) (λ m _=>[(231016,231016,.mx (BJ 3 eQ m))]) [] [] m1 (P.length+1) (by (conv=>whnf);exact ⟨rfl,rfl,rfl⟩) ⟨hS,by omega,by omega⟩ ?_;clear hS;intro m2 i ⟨hS,j1,j2⟩ sh;have ue:=hS.len;rw[qp]at ue;by_cases hj:i<n
 ·obtain ⟨rq,fe⟩ : ∃ r,m2[i]? = some r:=⟨_,zE (by omega)⟩
  have ov:=hS.ht;have Fx:=hS.w6.lr rq (zM fe);have aw:=hS.w6.lr rp (zM ov);(repeat' ((first|(apply AG<;>intro hc<;>try (exfalso;omega))|(apply AY;omega)|(refine FM ?_ (λ r hr => ?_);omega)|apply AD)<;>conv=>whnf))
  rename_i rA hrA;cases fe.symm.trans hrA;cases ov.symm.trans hr;rw[show 0+((i:Nat):Int).toNat=i by omega,show 0+((P.length:Nat):Int).toNat=P.length by omega,show (List.map eQ rq).length=WW by rw[List.length_map];exact Fx,show (List.map eQ rp).length=WW by rw[List.length_map];exact aw];have qw:rq[c]? = some (rq.getD c 0):=QK (by omega);refine GF 1000 N.K5 rfl rfl ?_;have ui:rp[c]? = some (rp.getD c 0):=QK (by omega);have Mj:=hS.step (by omega) fe;have m8:(comb (rp.getD c 0) (rq.getD c 0) l rq rp).length=WW:=by rw[kV (by omega)];exact Fx
  have hcg:=λ j=>bG (p:=rp.getD c 0) (f:=rq.getD c 0) (l:=l) (r:=rq) (t:=rp) (by omega) j
  have ij:=λ j (h:j<c)=>hS.w6.zr i rq (by omega) fe j h
  have nq:=λ j (h:j<c)=>hS.w6.zr P.length rp (Nat.le_refl _) ov j h
  have Pa:=hS.hi i rq (Nat.le_refl i) fe;have Oz:=hS.bt;have fi:=hS.bl;have ka:=hS.l0;have Au:=Oz.at ui;have Av:=Pa.at qw;generalize Hq:rp.getD c 0=pv at *;generalize hfv:rq.getD c 0=fv at *;generalize oh:comb pv fv l rq rp=cb at *;have Fg:cb.take c++rq.drop c=rq:=Ae3 (by omega) λ j hj=>⟨by rw[hcg,ij j hj,nq j hj,Rat.zero_mul,Rat.zero_mul,Rat.sub_eq_add_neg,Rat.neg_zero,Rat.add_zero,Rat.div_def,Rat.zero_mul],ij j hj⟩
  have Ak:=PO (z:=3) fe;have Ol:=PO (z:=3) ov;have Jg:(BJ 3 eQ m2).length=n:=by simp only[BJ,List.length_map];omega
  have Ch:(BJ 3 eQ m2).set i (some (3,cb.map eQ))=BJ 3 eQ (m2.set i cb):=by simp only[BJ,List.map_set]
  generalize BJ 3 eQ m2=R2 at *;have Ds:R2.set i (some (3,rq.map eQ))=R2:=gB Ak;(repeat' ((first|(apply AY;omega)|apply AD)<;>conv=>whnf))
  refine W4 Ol ?_;(conv=>whnf)
  (repeat' ((first|(apply AY;omega)|(refine FU ?_ (λ_=>rfl) (λ v hv => ?_);omega))<;>conv=>whnf))
  cases ui.symm.trans hv;skip
  refine W4 Ak ?_;(conv=>whnf)
  (repeat' ((first|(refine FU ?_ (λ_=>rfl) (λ v hv => ?_);omega)|fail)<;>conv=>whnf))
  cases qw.symm.trans hv;skip
  have hp7:=Nat.le_trans (rT yi P.length) (eU hB (show P.length+1<=n by omega));generalize 6^P.length*K0=BB at *;refine BR (λ j=>WW-j) (λ(j:Nat)=>c<=j/\j<=WW) (λ j=>[(10,.int .i64 j)]) (λ j=>[(231016,231016,.mx (R2.set i (some (3,(cb.take j++rq.drop j).map eQ))))]) [] [] c (by first|exact (by (conv=>whnf);exact ⟨rfl,rfl,rfl⟩)|(rw[Fg,Ds];exact (by (conv=>whnf);exact ⟨rfl,rfl,rfl⟩))) ⟨by omega,by omega⟩ ?_;intro j ⟨k1,k2⟩ jh;have cu:(cb.take j++rq.drop j).length=WW:=by rw[List.length_append,List.length_take,List.length_drop];omega
  by_cases hjn:j<WW
  ·obtain ⟨x,hx⟩ : ∃ x,rq[j]? = some x:=⟨_,zE (by omega)⟩
   obtain ⟨y,hy⟩ : ∃ y,rp[j]? = some y:=⟨_,zE (by omega)⟩;have wx:cb[j]? = some ((x*pv-y*fv)/l):=by rw[<-oh];exact Ug hx hy
   have Fe:=Ae1 (a:=cb) (by omega) hx;have kb:=Ae2 (b:=rq) (by omega) wx;have bx:=Pa.at hx;have Cd:=Oz.at hy
   have ay:=GY N.toa8 bx Au (by omega) (by omega);have cr:=GY N.toa8 Cd Av (by omega) (by omega)
   have Dx:=YJ N.tov5 (bx.mul Au) (Cd.mul Av) (by omega) (by omega);have hDi:=YG N.toa8 ((bx.mul Au).lf (Cd.mul Av)) fi (by omega) (by omega) ka;have Jh:(R2.set i (some (3,(cb.take j++rq.drop j).map eQ)))[P.length]? = some (some (3,rp.map eQ)):=by rw[List.getElem?_set,if_neg (by omega)];exact Ol
   generalize cb.take j++rq.drop j=cm at *;(repeat' ((first|(apply AG<;>intro hc<;>try (exfalso;omega))|(apply AY;omega)|apply AD)<;>conv=>whnf))
   refine O4 rfl (by omega) ?_;(conv=>whnf)
   (repeat' ((first|(refine FU ?_ (λ_=>rfl) (λ v hv => ?_);omega)|fail)<;>conv=>whnf))
   cases Fe.symm.trans hv;(repeat' ((first|(apply AY;omega)|refine AE (ay) ?_)<;>conv=>whnf))
   refine W4 Jh ?_;(conv=>whnf)
   (repeat' ((first|(refine FU ?_ (λ_=>rfl) (λ v hv => ?_);omega)|fail)<;>conv=>whnf))
   cases hy.symm.trans hv;(repeat' ((first|refine AE (cr) ?_|refine AE (Dx) ?_)<;>conv=>whnf))
   (repeat' ((first|(apply AY;omega)|refine AE (hDi) ?_)<;>conv=>whnf))
   refine O4 rfl (by omega) ?_;(conv=>whnf)
   refine FW (enc:=eQ) ((x*pv-y*fv)/l) rfl (λ_=>rfl) (by omega) ?_;rw[kb];(conv=>whnf)
   refine XF rfl (by rw[List.length_map,List.length_map,<-kb,List.length_set]) ?_;(conv=>whnf)
   (repeat' ((first|(apply AU;omega)|fail)<;>conv=>whnf))
   exact BF [] (jh (j+1) (by omega) ⟨by omega,by omega⟩)
  ·have ej:j=WW:=by omega
   clear jh;rw[List.take_of_length_le (by omega),List.drop_of_length_le (by omega),List.append_nil,Ch];(repeat' ((first|(apply AG<;>intro hc<;>try (exfalso;omega))|apply AD)<;>conv=>whnf))
   refine ⟨rfl,_,rfl,?_⟩;(conv=>whnf)
   (repeat' ((first|(apply AU;omega)|fail)<;>conv=>whnf))
   exact BF [] (sh (m2.set i cb) (i+1) (by omega) ⟨Mj,by omega,by omega⟩)
 ·have ei:i=n:=by omega
  clear sh;rw[ei]at hS;(repeat' ((first|(apply AG<;>intro hc<;>try (exfalso;omega))|apply AD)<;>conv=>whnf))
  exact BZ [] (by (conv=>whnf);exact ⟨rfl,rfl,rfl⟩) (u9 m2 hS)
theorem AeH {a b:List (List Rat)} {n w k:Nat} (kn : ∀ r∈a,r.length=n) (qm : ∀ r∈b,r.length=w) (gk:Ms k a) (gl:Ms k b):(∀ r∈CO a b,r.length=n+w)/\Ms k (CO a b):=by
 constructor
 ·intro r hr
  obtain ⟨i,hi⟩:=List.getElem?_of_mem hr;have u7:=(zS hi).1;simp only[CO,List.length_zipWith]at u7;obtain ⟨x,hx⟩ : ∃ x,a[i]? = some x:=⟨_,zE (by omega)⟩;obtain ⟨y,hy⟩ : ∃ y,b[i]? = some y:=⟨_,zE (by omega)⟩;obtain rfl:=Option.some.inj ((QM hx hy).symm.trans hi);rw[List.length_append,kn x (zM hx),qm y (zM hy)]
 ·intro r hr
  obtain ⟨i,hi⟩:=List.getElem?_of_mem hr;have u7:=(zS hi).1;simp only[CO,List.length_zipWith]at u7;obtain ⟨x,hx⟩ : ∃ x,a[i]? = some x:=⟨_,zE (by omega)⟩;obtain ⟨y,hy⟩ : ∃ y,b[i]? = some y:=⟨_,zE (by omega)⟩;obtain rfl:=Option.some.inj ((QM hx hy).symm.trans hi);intro z hz;rcases List.mem_append.1 hz with hz|hz
  ·exact gk.at hx z hz
  ·exact gl.at hy z hz
theorem Adk (N:u4 L) (q q1 q2 q3:Bool) (a b:List (List Rat)) (n w k K0:Nat) (z0:a.length=n) (kn : ∀ r∈a,r.length=n) (fi:b.length=n) (qm : ∀ r∈b,r.length=w) (hn:1<=n/\n<=52) (hw:1<=w/\w<=52) (Es:k<=K0) (yi:1<=K0) (gk:Ms k a) (gl:Ms k b)
  (qz : ∀ r∈CO a b,∀ j,Bt K0 (C1 (r.take j))) (zo:Ms K0 (whole (CO a b)))
  (hB:6^n*K0<=1000000000000) (hC:E8 (6^n*K0) n n<=1000000000000) {B0:Nat} (vd:E8 (6^n*K0) n n+6^n*K0<=B0) :
  ∃ v,Ev L 235 [.sl q (CX q1 a),.sl q2 (CX q3 b)] v/\((¬ NS n a/\v = .g7 [.sl false [],.int .i64 11])\/(NS n a /\ ∃ y:Nat->List Rat,v = .g7 [.sl false (eM (JB y n w)),.int .i64 0] /\
   ∀ c,c<w->(y c).length=n/\Bs B0 (y c) /\ ∀ (i:Nat) (r s:List Rat),a[i]? = some r->b[i]? = some s->A3 r (y c)=s.getD c 0)):=by
 have hI:=I7 N.toa8 1 (by omega);have aj:(CO a b).length=n:=by simp [CO,z0,fi]
 have Hk : ∀ r∈CO a b,r.length=n+w:=λ r hr=>by
  obtain ⟨i,hi⟩:=List.getElem?_of_mem hr;have u7:=(zS hi).1;obtain ⟨x,hx⟩ : ∃ x,a[i]? = some x:=⟨_,zE (by omega)⟩;obtain ⟨y,hy⟩ : ∃ y,b[i]? = some y:=⟨_,zE (by omega)⟩;obtain rfl:=Option.some.inj ((QM hx hy).symm.trans hi);rw[List.length_append,kn x (zM hx),qm y (zM hy)]
 have zd:Ms k (CO a b):=λ r hr=>by
  obtain ⟨i,hi⟩:=List.getElem?_of_mem hr;have u7:=(zS hi).1;obtain ⟨x,hx⟩ : ∃ x,a[i]? = some x:=⟨_,zE (by omega)⟩;obtain ⟨y,hy⟩ : ∃ y,b[i]? = some y:=⟨_,zE (by omega)⟩;obtain rfl:=Option.some.inj ((QM hx hy).symm.trans hi);intro z hz;rcases List.mem_append.1 hz with hz|hz
  ·exact gk.at hx z hz
  ·exact gl.at hy z hz
 refine Ev.xE N.K4 rfl rfl ?_;(repeat' ((first|apply AR|apply AD)<;>conv=>whnf))
 unfold CT;refine ⟨⟨by omega,by omega,by simp only[DP];omega,by omega⟩,?_⟩;rw[Int.toNat_natCast,z0];(conv=>whnf)
 skip
 refine vJ 22 22 n rfl ?_;refine BR (λ i=>n-i) (λ(i:Nat)=>i<=n) (λ i=>[(25,.int .i64 i)]) (λ i=>[(22,22,.rw 1 ((fz none (((CO a b).take i).map some) n).map cC))]) [] [] 0 (by first|exact (by (conv=>whnf);exact ⟨rfl,rfl,rfl⟩)|(rw[List.take_zero,List.map_nil,show fz (none:Option (List Rat)) [] n=List.replicate n none by simp [fz],List.map_replicate];exact (by (conv=>whnf);exact ⟨rfl,rfl,rfl⟩))) (by omega) ?_;intro i p1 ih;by_cases hi:i<n
 ·obtain ⟨r,o5⟩ : ∃ r,a[i]? = some r:=⟨_,zE (by omega)⟩
  obtain ⟨s,ck⟩ : ∃ s,b[i]? = some s:=⟨_,zE (by omega)⟩;have iz:a[(i:Int).toNat]? = some r:=o5;have qy:b[(i:Int).toNat]? = some s:=ck;have bp:=kn r (zM o5);have zj:=qm s (zM ck);have hCc:=Yh N true q1 q3 r s (by omega) (by omega) (by omega);have se:(((CO a b).take i).map some).length=i:=by rw[List.length_map,List.length_take];omega
  have df:=TK (z:=(none:Option (List Rat))) (l:=((CO a b).take i).map some) (m:=n) (by omega);have gm:=TL (z:=(none:Option (List Rat))) (x:=some (r++s)) (l:=((CO a b).take i).map some) (m:=n) (by omega);have hta:(CO a b).take (i+1)=(CO a b).take i++[r++s]:=by rw[List.take_add_one,QM o5 ck];rfl
  rw[se,show ((CO a b).take i).map some++[some (r++s)]=((CO a b).take (i+1)).map some by rw[hta,List.map_append];rfl]at gm;generalize fz (none:Option (List Rat)) (((CO a b).take i).map some) n=J at *;(repeat' ((first|(apply AG<;>intro hc<;>try (exfalso;omega))|(apply AY;omega)|(refine BC (by assumption) ?_ rfl ?_;omega)|refine ST rfl rfl ?_|apply AD|refine AE (hCc) ?_)<;>conv=>whnf))
  refine FW (enc:=cC) (some (r++s)) rfl (λ e=>by cases e<;>rfl) (by omega) ?_;(conv=>whnf)
  rw[gm];(repeat' ((first|(apply AU;omega)|fail)<;>conv=>whnf))
  exact BF [] (ih (i+1) (by omega) (by omega))
 have ei:i=n:=by omega
 clear ih;rw[ei,List.take_of_length_le (by omega),Adv aj];(repeat' ((first|(apply AG<;>intro hc<;>try (exfalso;omega))|apply AD)<;>conv=>whnf))
 have Iz:K0<=1000000000000:=by simpa using eU hB (Nat.zero_le n)
 refine GF 1000 N.J2 rfl rfl ?_;(repeat' (apply AD<;>conv=>whnf))
 unfold CT;refine ⟨⟨by omega,by omega,by simp only[DP];omega,by omega⟩,?_⟩;rw[Int.toNat_natCast];(conv=>whnf)
 skip
 refine EX (enc:=eO) none n rfl (by omega) (by omega) ?_;(conv=>whnf)
 skip
 refine BZ [] (by (conv=>whnf);exact ⟨rfl,rfl,rfl⟩) (AgA N q q1 q2 q3 a b (CO a b) n (n+w) k aj Hk hn (by omega) zd qz Es Iz ?_);(repeat' (apply AD<;>conv=>whnf))
 refine ⟨rfl,_,rfl,?_⟩;(conv=>whnf)
 skip
 have Jo:n+w<=104:=by omega
 have hW:n<=n+w:=by omega
 have qp:(whole (CO a b)).length=n:=by simp only[whole,List.length_map];exact aj
 have Bg:=Ag7 Hk;have Bf:=zo;have uc:=Ag8 (CO a b);have Kx:a.length=b.length:=by omega
 clear zd Hk gk gl Iz ei hi p1 i qz zo Es;generalize whole (CO a b)=m0 at qp Bg Bf uc ⊢;refine EW 1000 N.J1 rfl rfl ?_;(repeat' ((first|apply AD|refine AE (hI) ?_)<;>conv=>whnf))
 refine vG (λ_ P _ _ _=>n-P.length) (λ(m:List (List Rat)) (P:List Nat) (c:Nat) (odd:Bool) (l:Rat)=>GU m0 K0 (n+w) n m P c odd l) (λ_ P c odd _=>[(7,.int .i64 (P.length:Nat)),(8,.int .i64 c),(9,.bool odd)]) (λ m _ _ _ l=>[(231016,231016,.mx (BJ 3 eQ m)),(233010,233010,.bx (eQ l))]) [] [] m0 [] 0 false ((1:Int):Rat) (by (conv=>whnf);exact ⟨rfl,rfl,rfl⟩) (GU.start Bg Bf) ?_;intro m P c odd l hE eh;have cu:=hE.len;have Ah:=hE.w6.pl;rw[qp]at cu;by_cases hP:P.length<n
 ·have hp6:=eU hB (show P.length<=n by omega)
  (repeat' ((first|(apply AG<;>intro hc<;>try (exfalso;omega))|apply AD)<;>conv=>whnf))
  refine vI (l:=[_,_]) (λ(m1:List (List Rat)) (c:Nat) (o:Bool)=>GU m0 K0 (n+w) n m1 P c o l/\(c<n -> ∃ rp,m1[P.length]? = some rp/\rp.getD c 0≠0)) (λ_ c o=>[(8,.int .i64 c),(9,.bool o)]) (λ m1 _ _=>[(231016,231016,.mx (BJ 3 eQ m1))]) [17] rfl ?_ ?_
  ·clear hE cu Ah
   intro m1 c Am9 ⟨hE,Hq⟩;have cu:=hE.len;have Ah:=hE.w6.pl;have u6:=hE.cc;rw[qp]at cu;by_cases nf:c<n
   ·obtain ⟨rp,Ln,Qg⟩:=Hq nf
    clear Hq;have hS:=hE.swp nf Ln Qg;(repeat' ((first|(apply AG<;>intro hc<;>try (exfalso;omega))|(apply AU;omega)|apply AD)<;>conv=>whnf))
    refine BZ [] (by (conv=>whnf);exact ⟨rfl,rfl,rfl⟩) (Agz N q2 q3 b (CO a b) ((CO a b).map C1) qp hn hW Jo yi hB hP nf hS λ m2 hS => ?_);have ov:=hS.ht;have AmB:=hS.w6.lr rp (zM ov);have ui:rp[c]? = some (rp.getD c 0):=QK (by omega);have ue:=hS.len;have u9:=hS.done yi (by omega);have Dq:(P++[c]).length=P.length+1:=by simp
    generalize rp.getD c 0=pv at ui u9;clear hS hE Qg Ln;(repeat' ((first|(apply AY;omega)|(refine FM ?_ (λ r hr => ?_);omega)|apply AD)<;>conv=>whnf))
    cases ov.symm.trans hr;refine AY (by rw[List.length_map];omega) ?_;(conv=>whnf)
    (repeat' ((first|(apply AU;omega)|(refine FU ?_ (λ_=>rfl) (λ v hv => ?_);omega)|refine F6 (by assumption) ?_)<;>conv=>whnf))
    cases ui.symm.trans hv;skip
    rw[show ((P.length:Nat):Int)+1=((P++[c]).length:Nat) by rw[Dq];omega];exact BZ [] (by (conv=>whnf);exact ⟨rfl,rfl,rfl⟩) (eh m2 (P++[c]) (c+1) _ pv (by rw[Dq];omega) u9)
   ·clear eh Hq
    (repeat' ((first|(apply AG<;>intro hc<;>try (exfalso;omega))|apply AD)<;>conv=>whnf))
    refine ⟨rfl,?_⟩;(conv=>whnf)
    (repeat' ((first|(apply AG<;>intro hc<;>try (exfalso;omega))|fail)<;>conv=>whnf))
    have fq:n<=c\/n<=P.length:=Or.inl (by omega);have Cu:=mR (w:=w) hE uc Kx kn z0 fq;skip
    refine ⟨.g7 [.sl false [],.int .i64 11],?_,Or.inl ⟨λ h=>absurd (Cu.2 h) (by omega),rfl⟩⟩;(conv=>whnf)
    exact AZ rfl (HY [] 11)
  ·clear eh
   intro ud;refine BR (λ c=>n-c) (λ(c:Nat)=>GU m0 K0 (n+w) n m P c odd l) (λ c=>[(8,.int .i64 c)]) (λ_=>[]) [17] [] c (by (conv=>whnf);exact ⟨rfl,rfl,rfl⟩) hE ?_;clear hE;intro c hE ch;have u6:=hE.cc;by_cases nf:c<n
   ·(repeat' ((first|(apply AG<;>intro hc<;>try (exfalso;omega))|apply AD)<;>conv=>whnf))
    refine BR (λ i=>n-i) (λ(i:Nat)=>P.length<=i/\i<=n /\ ∀ (q:Nat) (r:List Rat),P.length<=q->q<i->m[q]? = some r->r.getD c 0=0) (λ i=>[(11,.int .i64 i)]) (λ_=>[]) [] [] P.length (by (conv=>whnf);exact ⟨rfl,rfl,rfl⟩) ⟨Nat.le_refl _,by omega,λ q r h1 h2=>absurd h1 (by omega)⟩ ?_;intro i ⟨i1,i2,i3⟩ ih;by_cases hi:i<n
    ·obtain ⟨rp,o5⟩ : ∃ r,m[i]? = some r:=⟨_,zE (by omega)⟩
     have bp:=hE.w6.lr rp (zM o5);have ja:rp[c]? = some (rp.getD c 0):=QK (by omega);have wo:=VG N.toa8 (hE.ms.at o5 _ (zM ja)) (by omega);have hz:=QV (x:=rp.getD c 0);generalize ml:rp.getD c 0=rc at *;generalize o8 rc.num=sg at *;by_cases rb:sg=0
     ·(repeat' ((first|(apply AG<;>intro hc<;>try (exfalso;omega))|(apply AY;omega)|(refine FM ?_ (λ r hr => ?_);omega)|apply AD)<;>conv=>whnf))
      cases o5.symm.trans hr;refine AY (by rw[List.length_map];omega) ?_;(conv=>whnf)
      (repeat' ((first|(refine FU ?_ (λ_=>rfl) (λ v hv => ?_);omega)|refine F6 (by assumption) ?_)<;>conv=>whnf))
      cases ja.symm.trans hv;(repeat' ((first|(apply AG<;>intro hc<;>try (exfalso;omega))|(apply AU;omega)|refine AE (wo) ?_)<;>conv=>whnf))
      refine BZ [] (by (conv=>whnf);exact ⟨rfl,rfl,rfl⟩) (ih (i+1) (by omega) ⟨by omega,by omega,λ q x h1 h2 hx => ?_⟩);by_cases e:q=i
      ·subst e
       cases o5.symm.trans hx;rw[ml];exact hz.1 rb
      ·exact i3 q x h1 (by omega) hx
     ·clear ih ch
      have Fi:rc≠0:=λ e=>rb (hz.2 e)
      (repeat' ((first|(apply AG<;>intro hc<;>try (exfalso;omega))|(apply AY;omega)|(refine FM ?_ (λ r hr => ?_);omega)|apply AD)<;>conv=>whnf))
      cases o5.symm.trans hr;refine AY (by rw[List.length_map];omega) ?_;(conv=>whnf)
      (repeat' ((first|(refine FU ?_ (λ_=>rfl) (λ v hv => ?_);omega)|refine F6 (by assumption) ?_)<;>conv=>whnf))
      cases ja.symm.trans hv;(repeat' ((first|(apply AG<;>intro hc<;>try (exfalso;omega))|(apply AY;omega)|(refine FM ?_ (λ r hr => ?_);omega)|refine F6 (by assumption) ?_|refine AE (wo) ?_)<;>conv=>whnf))
      ·obtain ⟨t,vp⟩ : ∃ t,m[P.length]? = some t:=⟨_,zE (by omega)⟩
       refine AY ⟨rfl,by simp only[BJ,List.length_map];omega⟩ ?_;(conv=>whnf)
       (repeat' ((first|(apply AY;omega)|refine F6 (by assumption) ?_)<;>conv=>whnf))
       rw[show 0+((i:Nat):Int).toNat=i by omega,show 0+((P.length:Nat):Int).toNat=P.length by omega];refine AY ⟨rfl,by simp only[BJ,List.length_map,List.length_set,List.length_range];omega,vA (by simp only[BJ,List.length_map];omega)⟩ ?_;(conv=>whnf)
       skip
       have Ix:=hE.swap o5 vp i1 (Nat.le_refl _) (by omega);have yo:c<n -> ∃ Rn,((m.set i t).set P.length rp)[P.length]? = some Rn/\Rn.getD c 0≠0:=λ_=>⟨rp,by rw[List.getElem?_set,if_pos rfl,if_pos (by rw[List.length_set];omega)],by rw[ml];exact Fi⟩
       generalize Qc:(!odd)=ob at *;cases ob;all_goals
        (conv=>whnf)
        skip
        refine W5.go ?_;refine iJ (k:=231016) (i:=i) (j:=P.length) rfl (PO o5) (PO vp) rfl rfl ?_;rw[qQ];exact BZ [] (by (conv=>whnf);exact ⟨rfl,rfl,rfl⟩) (ud _ c _ ⟨Ix,yo⟩)
      ·have ei:i=P.length:=by omega
       exact W5.go (BZ [] (by (conv=>whnf);exact ⟨rfl,rfl,rfl⟩) (ud m c odd ⟨hE,λ_=>⟨rp,by rw[<-ei];exact o5,by rw[ml];exact Fi⟩⟩))
    ·have ei:i=n:=by omega
     clear ih;(repeat' ((first|(apply AG<;>intro hc<;>try (exfalso;omega))|(apply AU;omega)|apply AD)<;>conv=>whnf))
     exact BF [] (ch (c+1) (by omega) (hE.skip nf λ q x h1 hx=>i3 q x h1 (by have:=(zS hx).1;omega) hx))
   ·clear ch
    (repeat' ((first|(apply AG<;>intro hc<;>try (exfalso;omega))|apply AD)<;>conv=>whnf))
    exact W5.go (BZ [] (by (conv=>whnf);exact ⟨rfl,rfl,rfl⟩) (ud m c odd ⟨hE,λ h=>absurd h nf⟩))
 ·clear eh
  (repeat' ((first|(apply AG<;>intro hc<;>try (exfalso;omega))|apply AD)<;>conv=>whnf))
  refine ⟨rfl,?_⟩;(conv=>whnf)
  (repeat' ((first|(apply AG<;>intro hc<;>try (exfalso;omega))|fail)<;>conv=>whnf))
  have fq:n<=c\/n<=P.length:=Or.inr (by omega);have Cu:=mR (w:=w) hE uc Kx kn z0 fq;have Gw:P.length=n:=by have:=hE.w6.le;have:=hE.w6.pl;omega
  have fc:=Cu.1 Gw;have Km:=Agy hE uc Kx kn qm Gw cu;have Mq:=tV hE Gw cu;have hmw:=hE.w6.lr;have kb:=hE.ms;have ql:=hE.bl;have ka:=hE.l0;rw[Gw]at kb ql;clear hE Cu Ah Bf Bg uc;have Hf : ∀ (e:Nat) (r:List Rat),m[e]? = some r->r.getD e 0≠0:=λ e r hr=>by
   rw[<-JW hr];exact (Mq e (by have:=(zS hr).1;omega)).1
  skip
  unfold CT;refine ⟨⟨by omega,by omega,by simp only[DP];omega,by omega⟩,?_⟩;rw[Int.toNat_natCast];(conv=>whnf)
  skip
  refine BR (λ u=>n-u) (λ(u:Nat)=>u<=n) (λ u=>[(61,.int .i64 u)]) (λ u=>[(58,58,.mx (List.replicate u (some (3,(EM [] w).map eO))++List.replicate (n-u) none))]) [] [] 0 (by (conv=>whnf);exact ⟨rfl,rfl,rfl⟩) (by omega) ?_;intro u r1 uh;by_cases hu:u<n
  ·obtain ⟨s,ck⟩ : ∃ s,b[u]? = some s:=⟨_,zE (by omega)⟩
   have qy:b[(u:Int).toNat]? = some s:=ck;have zj:=qm s (zM ck);(repeat' ((first|(apply AG<;>intro hc<;>try (exfalso;omega))|apply AR|(refine BC (by assumption) ?_ rfl ?_;omega)|apply AD)<;>conv=>whnf))
   rw[zj];refine EX (enc:=eO) none w rfl rfl (by omega) ?_;(conv=>whnf)
   (repeat' ((first|(apply AY;omega)|fail)<;>conv=>whnf))
   unfold AM CH;refine ⟨by simp,by simp;omega,?_⟩;(conv=>whnf)
   rw[show 0+((u:Int)).toNat=u by omega,<-QF,Adt _ _ r1 hu];(repeat' ((first|(apply AU;omega)|fail)<;>conv=>whnf))
   exact BF [] (uh (u+1) (by omega) (by omega))
  have eu:u=n:=by omega
  subst eu;clear uh;obtain ⟨y,hy⟩ : ∃ y:Nat->List Rat,y=λ c'=>(ER (u+c') l m 0).map (· / l):=⟨_,rfl⟩
  have ku : ∀ c',(y c').length=u:=λ c'=>by rw[hy,List.length_map,PA];exact cu
  have ve:(JB y u w).length=u:=by simp [JB]
  have wm : ∀ e,e<u->(JB y u w)[e]? = some ((List.range w).map λ c'=>(y c').getD e 0):=λ e he=>by simp [JB,he]
  have Om : ∀ r∈JB y u w,r.length=w:=λ r hr=>by
   obtain ⟨i,_,rfl⟩:=List.mem_map.1 hr;simp
  rw[show List.replicate u (some (3,List.map eO (EM [] w)))++List.replicate (u-u) none=BJ 3 eO (ot (JB y u w) w 0 0) by rw[Afx,ve];simp [BJ]];obtain ⟨s0,ck⟩ : ∃ s,b[0]? = some s:=⟨_,zE (by omega)⟩;have Mc:b[(0:Int).toNat]? = some s0:=ck;have Md:=qm s0 (zM ck);generalize hRg:JB y u w=R at ve wm Om ⊢;(repeat' ((first|(apply AG<;>intro hc<;>try (exfalso;omega))|apply AR|(refine BC (by assumption) ?_ rfl ?_;omega)|apply AD)<;>conv=>whnf))
  rw[Md];refine BR (λ c=>w-c) (λ(c:Nat)=>c<=w) (λ c=>[(78,.int .i64 c)]) (λ c=>[(58,58,.mx (BJ 3 eO (ot R w c 0)))]) [] [] 0 (by (conv=>whnf);exact ⟨rfl,rfl,rfl⟩) (by omega) ?_;intro c' r2 ch;by_cases px:c'<w
  ·have Ag:=Yt N true true m u (u+w) (u+c') (6^u*K0) l cu hmw (by omega) (by omega) (by omega) (by omega) Hf kb ql (by omega)
   have wv:=XU (c:=u+c') (n:=u) ql m 0 (by omega) kb;have sj:=PA (u+c') l m 0;have Qr : ∀ (e:Nat) (x:Rat),(ER (u+c') l m 0)[e]? = some x->(y c').getD e 0=x/l:=λ e x hx=>by
    rw[hy,List.getD_eq_getElem?_getD,List.getElem?_map,hx];rfl
   rw[cu]at wv sj;rw[Int.natCast_add]at Ag;generalize ER (u+c') l m 0=xs at Ag wv sj Qr;(repeat' ((first|(apply AG<;>intro hc<;>try (exfalso;omega))|(apply AU;omega)|apply AD)<;>conv=>whnf))
   refine I2 (λ_=>rfl) rfl (by omega) ?_;(conv=>whnf)
   (repeat' ((first|apply AR|refine AE (Ag) ?_)<;>conv=>whnf))
   refine BR (λ f=>u-f) (λ(f:Nat)=>f<=u) (λ f=>[(88,.int .i64 f)]) (λ f=>[(58,58,.mx (BJ 3 eO (ot R w c' f)))]) [] [] 0 (by (conv=>whnf);exact ⟨rfl,rfl,rfl⟩) (by omega) ?_;intro f r5 fh;by_cases hf2:f<u
   ·obtain ⟨x,hx⟩ : ∃ x,xs[f]? = some x:=⟨_,zE (by omega)⟩
    have fm:xs[(f:Int).toNat]? = some x:=hx;have bx:=wv.at hx;have hD:=YG N.toa8 bx ql (by omega) (by omega) ka;have Je:=wm f hf2;have Pz:((List.range w).map λ c'=>(y c').getD f 0)[c']? = some (x/l):=by rw[List.getElem?_map,List.getElem?_range px,Option.map_some,Qr f x hx]
    have Le:((List.range w).map λ c'=>(y c').getD f 0).length=w:=by simp
    generalize ((List.range w).map λ c'=>(y c').getD f 0)=row at Je Pz Le;have Qb:=Y5 (n:=w) (j:=c') (i:=f) Je;rw[if_neg (by omega)]at Qb;have hos:=Afw (n:=w) (j:=c') Je;have Hp:=V5 R w c' f;have Hl:=PJ (l:=row.take c') (m:=w) (by rw[List.length_take];omega);have j6:=QG (l:=row.take c') (m:=w) (x:=x/l) (by rw[List.length_take];omega);rw[List.length_take,Nat.min_eq_left (by omega),<-T9 Pz]at j6;generalize ot R w c' f=O at *;(repeat' ((first|(apply AG<;>intro hc<;>try (exfalso;omega))|(apply AY;omega)|(refine BC (by assumption) ?_ rfl ?_;omega)|(refine FM ?_ (λ r hr => ?_);omega)|apply AD|refine AE (hD) ?_)<;>conv=>whnf))
    cases Qb.symm.trans hr;skip
    have Amg:=PJ (l:=row.take (c'+1)) (m:=w) (by rw[List.length_take];omega);refine AY (by rw[List.length_map];omega) ?_;(conv=>whnf)
    (repeat' ((first|refine F6 (by assumption) ?_|fail)<;>conv=>whnf))
    refine FW (enc:=eO) (some (x/l)) rfl (λ e=>by cases e<;>rfl) (by omega) ?_;(conv=>whnf)
    rw[j6];refine aH (by omega) ?_;rw[hos];(conv=>whnf)
    (repeat' ((first|(apply AU;omega)|fail)<;>conv=>whnf))
    exact BF [] (fh (f+1) (by omega) (by omega))
   have ef:f=u:=by omega
   clear fh;have Bi:=Afv R w c';rw[ve]at Bi;rw[ef,Bi];(repeat' ((first|(apply AG<;>intro hc<;>try (exfalso;omega))|(apply AU;omega)|apply AD)<;>conv=>whnf))
   exact BF [] (ch (c'+1) (by omega) (by omega))
  have ec:c'=w:=by omega
  clear ch;rw[ec,Afu Om];(repeat' ((first|(apply AG<;>intro hc<;>try (exfalso;omega))|apply AD)<;>conv=>whnf))
  refine ⟨.g7 [.sl false (eM R),.int .i64 0],?_,Or.inr ⟨fc,y,by rw[<-hRg],λ c2 px=>⟨ku c2,?_,λ i r s h1 h2=>by rw[hy];exact Km c2 px i r s h1 h2⟩⟩⟩
  ·(conv=>whnf)
   refine I2 (λ_=>rfl) rfl (by omega) ?_;(conv=>whnf)
   exact AZ rfl (HY R 0)
  ·rw[hy]
   intro z hz;obtain ⟨x,hx,rfl⟩:=List.mem_map.1 hz;have wv:=XU (c:=u+c2) (n:=u) ql m 0 (by omega) kb;rw[cu]at wv;exact ((wv x hx).td ql).le (by omega)
theorem Afq {x:Rat} {b:List Rat} {i:Nat} (h:b[i]? = some x):(b.map λ x=>[x])[i]? = some [x]:=by rw[List.getElem?_map,h];rfl
theorem kD (y:List Rat) (e:Int):A4 (.g7 [.sl false (y.map eQ),.int .i64 e]):=by
 simp only[A4,CW,and_true,true_and];exact JY y
def OW (x:Rat):Option (Nat × List (List AV)):=some (3,[eQ x])
theorem Yp (N:u4 L) (q q1 q2:Bool) (a:List (List Rat)) (b:List Rat) (n k K0:Nat) (z0:a.length=n) (kn : ∀ r∈a,r.length=n) (fi:b.length=n) (hn:1<=n/\n<=52) (Es:k<=K0) (yi:1<=K0) (gk:Ms k a) (gl:Bs k b)
  (qz : ∀ r∈CO a (b.map λ x=>[x]),∀ j,Bt K0 (C1 (r.take j))) (zo:Ms K0 (whole (CO a (b.map λ x=>[x]))))
  (hB:6^n*K0<=1000000000000) (hC:E8 (6^n*K0) n n<=1000000000000) {B0:Nat} (vd:E8 (6^n*K0) n n+6^n*K0<=B0) :
  ∃ v,Ev L 237 [.sl q (CX q1 a),.sl q2 (b.map eQ)] v/\((¬ NS n a/\v = .g7 [.sl false [],.int .i64 11])\/(NS n a /\ ∃ y:List Rat,v = .g7 [.sl false (y.map eQ),.int .i64 0] /\
   y.length=n/\Bs B0 y /\ ∀ (i:Nat) (r:List Rat) (s:Rat),a[i]? = some r->b[i]? = some s->A3 r y=s)):=by
 have hV:=Zc N q q1 a n n z0 kn hn hn;obtain ⟨r0,o5⟩ : ∃ r,a[0]? = some r:=⟨_,zE (by omega)⟩;have Bl:a[(0:Int).toNat]? = some r0:=o5;have ka:=kn r0 (zM o5);obtain ⟨v,hS,z7⟩:=Adk N q q1 true true a (b.map λ x=>[x]) n 1 k K0 z0 kn (by rw[List.length_map];exact fi) (λ r hr=>by obtain ⟨x,_,rfl⟩:=List.mem_map.1 hr;rfl) hn (by omega) Es yi gk (λ r hr=>by
  obtain ⟨x,hx,rfl⟩:=List.mem_map.1 hr;intro z hz;obtain rfl:=List.mem_singleton.1 hz;exact gl z hx) qz zo hB hC vd
 refine Ev.xE N.K1 rfl rfl ?_;(repeat' ((first|(apply AG<;>intro hc<;>try (exfalso;omega))|apply AR|(refine BC (by assumption) ?_ rfl ?_;omega)|apply AD|refine AE (hV) ?_)<;>conv=>whnf))
 unfold CT;refine ⟨⟨by omega,by omega,by simp only[DP];omega,by omega⟩,?_⟩;rw[Int.toNat_natCast,fi];(conv=>whnf)
 (repeat' (apply AR<;>conv=>whnf))
 refine BR (λ i=>n-i) (λ(i:Nat)=>i<=n) (λ i=>[(35,.int .i64 i)]) (λ i=>[(32,32,.mx (fz none ((b.take i).map OW) n))]) [] [] 0 (by first|exact (by (conv=>whnf);exact ⟨rfl,rfl,rfl⟩)|(rw[List.take_zero,List.map_nil,show fz (none:Option (Nat × List (List AV))) [] n=List.replicate n none by simp [fz]];exact (by (conv=>whnf);exact ⟨rfl,rfl,rfl⟩))) (by omega) ?_;intro i p1 ih;have df:=TK (z:=(none:Option (Nat × List (List AV)))) (l:=(b.take i).map OW) (m:=n) (by rw[List.length_map,List.length_take];omega);by_cases hi:i<n
 ·obtain ⟨x,hx⟩ : ∃ x,b[i]? = some x:=⟨_,zE (by omega)⟩
  have fm:b[(i:Int).toNat]? = some x:=hx;have gm:=TL (z:=(none:Option (Nat × List (List AV)))) (x:=OW x) (l:=(b.take i).map OW) (m:=n) (by rw[List.length_map,List.length_take];omega);rw[List.length_map,List.length_take,Nat.min_eq_left (by omega),show (b.take i).map OW++[OW x]=(b.take (i+1)).map OW by rw[List.take_add_one,hx,List.map_append];rfl]at gm;generalize fz (none:Option (Nat × List (List AV))) ((b.take i).map OW) n=J at *;have Ko:J.set i (some (3,[[AV.bool (decide (x.num<0)),AV.sl false ((dg x.num.natAbs).map AL),AV.sl false ((dg x.den).map AL)]]))=fz none ((b.take (i+1)).map OW) n:=gm;(repeat' ((first|(apply AG<;>intro hc<;>try (exfalso;omega))|(apply AY;omega)|(refine BC (by assumption) ?_ rfl ?_;omega)|apply AD)<;>conv=>whnf))
  unfold AM CH;refine ⟨by simp,by omega,?_⟩;(conv=>whnf)
  rw[show 0+((i:Int)).toNat=i by omega,Ko];(repeat' ((first|(apply AU;omega)|fail)<;>conv=>whnf))
  exact BF [] (ih (i+1) (by omega) (by omega))
 have ei:i=n:=by omega
 clear ih df;rw[ei,List.take_of_length_le (by omega),TJ (by rw[List.length_map];exact fi),show b.map OW=BJ 3 eQ (b.map λ x=>[x]) by rw[BJ,List.map_map];rfl];(repeat' ((first|(apply AG<;>intro hc<;>try (exfalso;omega))|(refine I2 (λ_=>rfl) rfl ?_ ?_;(first|rfl|simp))|apply AD)<;>conv=>whnf))
 ·exact fi.symm
 (conv=>whnf)
 rcases z7 with ⟨fc,rfl⟩|⟨fc,y,rfl,hy⟩
 ·(repeat' ((first|(apply AG<;>intro hc<;>try (exfalso;omega))|refine AE (hS) ?_)<;>conv=>whnf))
  refine ⟨.g7 [.sl false [],.int .i64 11],?_,Or.inl ⟨fc,rfl⟩⟩;(conv=>whnf)
  exact AZ rfl (HY [] 11)
 ·obtain ⟨ku,zp,oy⟩:=hy 0 (by omega)
  have wm : ∀ e,e<n->(JB y n 1)[e]? = some [(y 0).getD e 0]:=λ e he=>by simp [JB,he]
  have ve:(JB y n 1).length=n:=by simp [JB]
  generalize JB y n 1=R at *;(repeat' ((first|(apply AG<;>intro hc<;>try (exfalso;omega))|apply AR|refine AE (hS) ?_)<;>conv=>whnf))
  rw[ve];refine EX (enc:=eO) none n rfl rfl (by omega) ?_;(conv=>whnf)
  (repeat' (apply AR<;>conv=>whnf))
  refine BR (λ e=>n-e) (λ(e:Nat)=>e<=n) (λ e=>[(60,.int .i64 e)]) (λ e=>[(57,57,.rw 3 ((EM ((y 0).take e) n).map eO))]) [] [] 0 (by first|exact (by (conv=>whnf);exact ⟨rfl,rfl,rfl⟩)|(rw[List.take_zero,<-QF];exact (by (conv=>whnf);exact ⟨rfl,rfl,rfl⟩))) (by omega) ?_;intro e p2 eh;have Hl:=PJ (l:=(y 0).take e) (m:=n) (by rw[List.length_take];omega);by_cases he2:e<n
  ·obtain ⟨x,hx⟩ : ∃ x,(y 0)[e]? = some x:=⟨_,zE (by omega)⟩
   have j6:=QG (l:=(y 0).take e) (m:=n) (x:=x) (by rw[List.length_take];omega);rw[List.length_take,Nat.min_eq_left (by omega),<-T9 hx]at j6;have Oj:=wm e he2;rw[show (y 0).getD e 0=x by rw[List.getD_eq_getElem?_getD,hx];rfl]at Oj;have Aln:R[(e:Int).toNat]? = some [x]:=Oj;have si:[x][(0:Int).toNat]? = some x:=rfl;generalize EM ((y 0).take e) n=F0 at *;(repeat' ((first|(apply AG<;>intro hc<;>try (exfalso;omega))|(apply AY;omega)|(refine BC (by assumption) ?_ rfl ?_;omega)|apply AD)<;>conv=>whnf))
   refine FW (enc:=eO) (some x) rfl (λ e=>by cases e<;>rfl) (by omega) ?_;(conv=>whnf)
   rw[j6];(repeat' ((first|(apply AU;omega)|fail)<;>conv=>whnf))
   exact BF [] (eh (e+1) (by omega) (by omega))
  have ee:e=n:=by omega
  clear eh;rw[ee,List.take_of_length_le (by omega),QE ku];(repeat' ((first|(apply AG<;>intro hc<;>try (exfalso;omega))|apply AD)<;>conv=>whnf))
  refine ⟨.g7 [.sl false ((y 0).map eQ),.int .i64 0],?_,Or.inr ⟨fc,y 0,rfl,ku,zp,λ i r s h1 h2 => ?_⟩⟩
  ·(conv=>whnf)
   refine DL (enc:=eQ) (λ_=>rfl) rfl ku.symm ?_;(conv=>whnf)
   exact AZ rfl (kD (y 0) 0)
  ·exact oy i r [s] h1 (Afq h2)
end Go.c5

namespace Go.c5
structure Pt where
 x:Rat
 y:Rat
 w:Rat
def AgN (g:List Pt) (f:Pt->Rat):Rat:=g.foldl (λ s p=>s+f p) 0
def rhs (g:List Pt) (k:Nat):Rat:=AgN g λ p=>p.w*p.x^k*p.y
def Wh (k:Nat) (x:Rat):Prop := ∃ z:Int,x=(z:Rat)/\z.natAbs<=2^k
theorem Wh.le {k l:Nat} {x:Rat} (h:Wh k x) (hl:k<=l):Wh l x:=by
 obtain ⟨z,e,b⟩:=h;exact ⟨z,e,Nat.le_trans b (Nat.pow_le_pow_right (by omega) hl)⟩
theorem Wh.mul {k l:Nat} {x y:Rat} (hx:Wh k x) (hy:Wh l y):Wh (k+l) (x*y):=by
 obtain ⟨z,rfl,b⟩:=hx;obtain ⟨u,rfl,c⟩:=hy;exact ⟨z*u,by rw[Rat.intCast_mul],by rw[Int.natAbs_mul,Nat.pow_add];exact Nat.mul_le_mul b c⟩
theorem Wh.add {k:Nat} {x y:Rat} (hx:Wh k x) (hy:Wh k y):Wh (k+1) (x+y):=by
 obtain ⟨z,rfl,b⟩:=hx;obtain ⟨u,rfl,c⟩:=hy;refine ⟨z+u,by rw[Rat.intCast_add],?_⟩;rw[Nat.pow_succ];have:=Int.natAbs_add_le z u
 omega
theorem Wh.neg {k:Nat} {x:Rat} (hx:Wh k x):Wh k (-x):=by
 obtain ⟨z,rfl,b⟩:=hx;exact ⟨-z,by rw[Rat.intCast_neg],by rw[Int.natAbs_neg];exact b⟩
theorem Wh.sub {k:Nat} {x y:Rat} (hx:Wh k x) (hy:Wh k y):Wh (k+1) (x-y):=by
 rw[Rat.sub_eq_add_neg];exact hx.add hy.neg
theorem Wh.zero (k:Nat):Wh k 0:=⟨0,rfl,Nat.zero_le _⟩
theorem Wh.bt {k:Nat} {x:Rat} (h:Wh k x):Bt k x:=by
 obtain ⟨z,rfl,b⟩:=h;exact Bt.ofInt b
theorem Wh.dot {k l:Nat} : ∀ {a b:List Rat},(∀ x∈a,Wh k x)->(∀ x∈b,Wh l x)->Wh (k+l+a.length) (A3 a b)
 | [],b,_,_=>by cases b<;>exact Wh.zero _
 | x::a,[],_,_=>Wh.zero _
 | x::a,y::b,ha,hb=>by
  rw[A3,List.length_cons,<-Nat.add_assoc];exact (((ha x List.mem_cons_self).mul (hb y List.mem_cons_self)).le (by omega)).add (Wh.dot (λ z hz=>ha z (List.mem_cons_of_mem _ hz)) λ z hz=>hb z (List.mem_cons_of_mem _ hz))
theorem QO (y:Rat):y*(y.den:Rat)=(y.num:Rat):=by
 have h:=Rat.num_divInt_den y;rw[Rat.divInt_eq_div]at h;have h0:((y.den:Int):Rat)≠0:=λ e=>by
  have:((y.den:Int):Rat)=((0:Int):Rat):=e
  have:=Rat.intCast_inj.1 this
  have:=y.den_pos
  omega
 have h2:=Rat.div_mul_cancel h0 (a:=(y.num:Rat));rw[h,Rat.intCast_natCast]at h2;exact h2
theorem X9 {y:Rat} {T:Nat} {z:Int} (h:(T:Rat)*y=(z:Rat)):y.den ∣ T:=by
 have h1:y*(y.den:Rat)=(y.num:Rat):=QO y;have h2:(((T:Int)*y.num:Int):Rat)=((z*(y.den:Int):Int):Rat):=by
  rw[Rat.intCast_mul,Rat.intCast_mul,<-h1,<-h,Rat.intCast_natCast,Rat.intCast_natCast,Rat.mul_assoc]
 have h3:=Rat.intCast_inj.1 h2;have h4:(y.den:Int) ∣ (T:Int)*y.num:=⟨z,by rw[h3,Int.mul_comm]⟩;have h5:y.den ∣ T*y.num.natAbs:=by
  have:=Int.natAbs_dvd_natAbs.2 h4
  simpa [Int.natAbs_mul] using this
 exact Nat.Coprime.dvd_of_dvd_mul_right (Nat.Coprime.symm y.reduced) h5
theorem Age {S M:Nat} {x:Rat} (hS:S ∣ M) (hM : ∃ z:Int,(M:Rat)*x=(z:Rat)) : ∃ S':Nat,OY (S:Rat) x=(S':Rat)/\S' ∣ M/\S ∣ S' /\ ∃ z:Int,(S':Rat)*x=(z:Rat):=by
 obtain ⟨T,rfl⟩:=hS;obtain ⟨z,hz⟩:=hM;have h1:((S:Rat)*x).den ∣ T:=X9 (z:=z) (by rw[<-hz,Rat.natCast_mul];grind);have h2:((S:Rat)*x)*((((S:Rat)*x).den:Nat):Rat)=(((S:Rat)*x).num:Rat):=QO _;generalize ((S:Rat)*x).num=u at h2;refine ⟨S*((S:Rat)*x).den,?_,Nat.mul_dvd_mul_left S h1,Nat.dvd_mul_right _ _,u,?_⟩
 ·rw[OY,Rat.natCast_mul]
 ·rw[Rat.natCast_mul];grind
theorem sX {M:Nat} : ∀ (l:List Rat) (S:Nat),S ∣ M->(∀ x∈l,∃ z:Int,(M:Rat)*x=(z:Rat)) -> ∃ S':Nat,l.foldl OY (S:Rat)=(S':Rat)/\S' ∣ M/\S ∣ S' /\ ∀ x∈l,∃ z:Int,(S':Rat)*x=(z:Rat)
 | [],S,hS,_=>⟨S,rfl,hS,Nat.dvd_refl S,λ x hx=>by cases hx⟩
 | x::l,S,hS,h=>by
  obtain ⟨S1,e1,d1,d2,z,hz⟩:=Age hS (h x List.mem_cons_self);obtain ⟨S2,e2,d3,d4,h2⟩:=sX l S1 d1 λ y hy=>h y (List.mem_cons_of_mem _ hy)
  refine ⟨S2,by rw[List.foldl_cons,e1,e2],d3,Nat.dvd_trans d2 d4,λ y hy => ?_⟩;rcases List.mem_cons.1 hy with rfl|hy
  ·obtain ⟨k,rfl⟩:=d4
   exact ⟨z*(k:Int),by rw[Rat.natCast_mul,Rat.intCast_mul,<-hz,Rat.intCast_natCast];grind⟩
  ·exact h2 y hy
theorem Agh {M:Nat} {l:List Rat} (h : ∀ x∈l,∃ z:Int,(M:Rat)*x=(z:Rat)) : ∃ S:Nat,C1 l=(S:Rat)/\S ∣ M /\ ∀ x∈l,∃ z:Int,x*C1 l=(z:Rat):=by
 obtain ⟨S,e,d,_,h2⟩:=sX l 1 (Nat.one_dvd M) h;refine ⟨S,e,d,λ x hx => ?_⟩;obtain ⟨z,hz⟩:=h2 x hx;exact ⟨z,by rw[Rat.mul_comm,<-hz];congr 1⟩
def hQ (S:HM):Nat->Rat
 | 0=>S.d
 | j+1=>A3 S.c (wQ S j)
theorem AgV {r:List Rat} (h:O1 r=r) (hn:r.length≠0):r.getD (r.length-1) 0≠0:=by
 have hl:=uQ r;rw[h]at hl;obtain ⟨n,qf⟩ : ∃ n,r.length=n+1:=⟨r.length-1,by omega⟩;rw[qf,HN]at hl;rw[qf,Nat.add_sub_cancel];intro h0;rw[if_pos h0]at hl;have:=UZ r n
 omega
def FA (B A:List Rat) (n:Nat):HM where
 a:=(List.range n).map λ i=>if i=0 then (List.range n).map λ k => -(A.getD (k+1) 0) else FZ n ((i-1:Nat):Int)
 b:=FZ n 0
 c:=(List.range n).map λ i=>B.getD (i+1) 0-B.getD 0 0*A.getD (i+1) 0
 d:=B.getD 0 0
def FN (x:Rat):Rat:=if x.num<0 then -x else x
def jk (f:Rat) (r t:List Rat):List Rat:=List.zipWith (λ x y=>x-f*y) r t
theorem bF {f:Rat} {r t:List Rat} (h:r.length=t.length):(jk f r t).length=r.length:=by simp [jk,h]
theorem kO {f:Rat} {r t:List Rat} {j:Nat} {x y:Rat} (hx:r[j]? = some x) (hy:t[j]? = some y):(jk f r t)[j]? = some (x-f*y):=by
 simp [jk,List.getElem?_zipWith,hx,hy]
theorem kQ {f:Rat} : ∀ {r t:List Rat} {z:Rat},z∈jk f r t -> ∃ x∈r,∃ y∈t,z=x-f*y
 | [],_,z,h=>by simp [jk]at h
 | _::_,[],z,h=>by simp [jk]at h
 | x::r,y::t,z,h=>by
  simp only[jk,List.zipWith_cons_cons,List.mem_cons]at h;rcases h with rfl|h
  ·exact ⟨x,by simp,y,by simp,rfl⟩
  ·obtain ⟨a,ha,b,og,e⟩:=kQ h
   exact ⟨a,by simp [ha],b,by simp [og],e⟩
theorem bE (f:Rat) : ∀ (r t X:List Rat),r.length=t.length->A3 (jk f r t) X=A3 r X-f*A3 t X
 | [],[],X,_=>by
  show A3 [] X=_;simp only[A3];grind
 | x::r,y::t,[],_=>by
  simp only[jk,List.zipWith_cons_cons,A3];grind
 | x::r,y::t,z::X,h=>by
  have ih:=bE f r t X (by simpa using h);simp only[jk]at ih;simp only[jk,List.zipWith_cons_cons,A3,ih];grind
theorem kP {f:Rat} {r t:List Rat} (h:r.length=t.length) (j:Nat):(jk f r t).getD j 0=r.getD j 0-f*t.getD j 0:=by
 rw[List.getD_eq_getElem?_getD,List.getD_eq_getElem?_getD,List.getD_eq_getElem?_getD];cases hx:r[j]? with
 | none =>
  have h1:=List.getElem?_eq_none_iff.1 hx;rw[List.getElem?_eq_none (by rw[bF h];exact h1),List.getElem?_eq_none (l:=t) (by omega)];show (0:Rat)=0-f*0;grind
 | some x =>
  have h1:=(zS hx).1;obtain ⟨y,hy⟩ : ∃ y,t[j]? = some y:=⟨_,zE (by omega)⟩;rw[kO hx hy,hy];rfl
theorem lP (l:List Rat) (p:Rat) (j:Nat):(l.map (· / p)).getD j 0=l.getD j 0/p:=by
 rw[List.getD_eq_getElem?_getD,List.getD_eq_getElem?_getD,List.getElem?_map];cases l[j]? with
 | none=>show (0:Rat)=0/p;rw[Rat.div_def,Rat.zero_mul]
 | some x=>rfl
theorem bT (p:Rat) : ∀ (r X:List Rat),A3 (r.map (· / p)) X=A3 r X/p
 | [],X=>by
  show A3 [] X=A3 [] X/p;simp only[A3,Rat.div_def];grind
 | x::r,[]=>by simp only[List.map_cons,A3,Rat.div_def];grind
 | x::r,z::X=>by
  have ih:=bT p r X;simp only[Rat.div_def]at ih;simp only[List.map_cons,A3,ih,Rat.div_def];grind
theorem bX {n i:Nat} {v:List Rat} (hv:v.length=n) (hi:i<n):A3 (FZ n i) v=v.getD i 0:=by
 have e:=congrArg (λ l=>l.getD i 0) (Aff hv);simp only[YY,dC,List.map_map]at e;rw[YP,if_pos hi]at e;exact e
structure EG (T B:List (List Rat)) (n W:Nat) (m:List (List Rat)) (k c:Nat):Prop where
 len:m.length=n
 wid : ∀ r∈m,r.length=n+W
 jv : ∀ w:List Rat,EQ (CO T B) w->EQ m w
 kr : ∀ w:List Rat,EQ m w->EQ (CO T B) w
 le:k<=c
 cn:c<=n
 w6:k=c -> ∀ (i:Nat) (r:List Rat),m[i]? = some r -> ∀ j,j<c->r.getD j 0=if i=j then 1 else 0
 sk:k<c -> ¬ NS n T
theorem EG.start {T B:List (List Rat)} {n W:Nat} (hT:Sq n T) (hB:B.length=n) (hW : ∀ r∈B,r.length=W):EG T B n W (CO T B) 0 0:=by
 refine ⟨?_,?_,λ_ h=>h,λ_ h=>h,Nat.le_refl _,Nat.zero_le _,λ_ _ _ _ j h=>absurd h (by omega),λ h=>absurd h (by omega)⟩
 ·rw[CO,List.length_zipWith,hT.l,hB,Nat.min_self]
 ·intro r hr
  obtain ⟨i,hi⟩:=List.getElem?_of_mem hr;rw[CO,List.getElem?_zipWith]at hi;cases ht:T[i]? with
  | none=>rw[ht]at hi;cases hi
  | some t =>
   cases hb:B[i]? with
   | none=>rw[ht,hb]at hi;cases hi
   | some b =>
    rw[ht,hb]at hi;obtain rfl:=Option.some.inj hi;rw[List.length_append,hT.at ht,hW b (zM hb)]
theorem EG.ns {T B:List (List Rat)} {W:Nat} {n c:Nat} {m:List (List Rat)} (h:EG T B n W m c c) (hT:Sq n T) (Nx:B.length=n) (hc:c<n) (hz : ∀ (q:Nat) (r:List Rat),c<=q->m[q]? = some r->r.getD c 0=0) : ¬ NS n T:=by
 intro fc;have cu:=h.len;have sj:((m.take c).map λ r => -1*r.getD c 0).length=c:=by rw[List.length_map,List.length_take];omega
 have Mv : ∀ (i:Nat) (r:List Rat),i<c->m[i]? = some r->((m.take c).map λ r => -1*r.getD c 0).getD i 0 = -1*r.getD c 0:=λ i r hi hr=>by
  rw[List.getD_eq_getElem?_getD,List.getElem?_map,List.getElem?_take,if_pos hi,hr];rfl
 generalize ((m.take c).map λ r => -1*r.getD c 0)=x at *;have ju:(x++1::List.replicate (n-c-1) (0:Rat)).length=n:=by simp [sj];omega
 have hK:EQ m ((x++1::List.replicate (n-c-1) (0:Rat))++List.replicate W 0):=by
  intro r hr;obtain ⟨i,hi⟩:=List.getElem?_of_mem hr;have u7:=(zS hi).1;have bp:=h.wid r hr;have e1:r=(r.take c++r.getD c 0::(r.drop (c+1)).take (n-c-1))++r.drop n:=by
   have e3:r.take n=r.take c++r.getD c 0::(r.drop (c+1)).take (n-c-1):=by
    have e4:(r.drop c).take (n-c)=r.getD c 0::(r.drop (c+1)).take (n-c-1):=by
     rw[List.drop_eq_getElem_cons (show c<r.length by omega),show n-c=(n-c-1)+1 by omega,List.take_succ_cons,List.getD_eq_getElem?_getD,zE (by omega)];simp
    rw[<-e4,<-List.take_add,show c+(n-c)=n by omega]
   rw[<-e3,List.take_append_drop]
  rw[e1,KN _ _ _ _ (by simp [sj];omega),TB,KN _ _ _ _ (by rw[List.length_take,sj];omega),A3,TB];by_cases Po:i<c
  ·have e2:r.take c=FZ c i:=by
    refine List.ext_getElem? λ j => ?_
    by_cases hj:j<c
    ·obtain ⟨y,hy⟩ : ∃ y,r[j]? = some y:=⟨_,zE (by omega)⟩
     have h3:=h.w6 rfl i r hi j hj;rw[List.getD_eq_getElem?_getD,hy]at h3;rw[List.getElem?_take,if_pos hj,hy,FZ,List.getElem?_map,List.getElem?_range hj];show some y=some (if (j:Int)=(i:Int) then (1:Rat) else 0);rw[show y=(if i=j then 1 else 0:Rat) from h3];by_cases h5:i=j
     ·rw[if_pos h5,if_pos (by omega)]
     ·rw[if_neg h5,if_neg (by omega)]
    ·rw[List.getElem?_eq_none (by rw[List.length_take];omega),List.getElem?_eq_none (by rw[iF];omega)]
   rw[e2,bX sj Po,Mv i r Po hi];grind
  ·have e2:r.take c=List.replicate c 0:=by
    refine List.ext_getElem? λ j => ?_
    by_cases hj:j<c
    ·obtain ⟨y,hy⟩ : ∃ y,r[j]? = some y:=⟨_,zE (by omega)⟩
     have h3:=h.w6 rfl i r hi j hj;rw[List.getD_eq_getElem?_getD,hy,if_neg (by omega)]at h3;rw[List.getElem?_take,if_pos hj,hy,List.getElem?_replicate,if_pos hj];exact congrArg some h3
    ·rw[List.getElem?_eq_none (by rw[List.length_take];omega),List.getElem?_eq_none (by simp;omega)]
   rw[e2,YE,hz i r (by omega) hi];grind
 have yi:=h.kr _ hK;have hKT:EQ T (x++1::List.replicate (n-c-1) (0:Rat)):=by
  intro t ht;obtain ⟨i,hi⟩:=List.getElem?_of_mem ht;have u7:=(zS hi).1;rw[hT.l]at u7;obtain ⟨b,hb⟩ : ∃ b,B[i]? = some b:=⟨_,zE (by omega)⟩;have h1:=yi (t++b) (zM (i:=i) (by
   rw[CO,List.getElem?_zipWith,hi,hb]))
  rw[KN _ _ _ _ (by rw[hT.at hi,ju]),TB,Rat.add_zero]at h1;exact h1
 have h1:=fc _ ju hKT c;rw[List.getD_eq_getElem?_getD,List.getElem?_append_right (by omega),sj,Nat.sub_self]at h1;exact absurd (show (1:Rat)=0 from h1) (by decide)
theorem EG.skip {T B:List (List Rat)} {W:Nat} {n k c:Nat} {m:List (List Rat)} (h:EG T B n W m k c) (hT:Sq n T) (Nx:B.length=n) (hc:c<n) (hz : ∀ (q:Nat) (r:List Rat),k<=q->m[q]? = some r->r.getD c 0=0):EG T B n W m k (c+1):=by
 refine ⟨h.len,h.wid,h.jv,h.kr,Nat.le_succ_of_le h.le,hc,λ e=>absurd h.le (by omega),λ_ => ?_⟩;by_cases e:k<c
 ·exact h.sk e
 ·have hle:=h.le
  obtain rfl:k=c:=by omega
  exact h.ns hT Nx hc hz
theorem EG.swap {T B:List (List Rat)} {W:Nat} {n k c i:Nat} {m:List (List Rat)} {r t:List Rat} (h:EG T B n W m k c) (hi:m[i]? = some r) (hk:m[k]? = some t) (hki:k<=i):EG T B n W ((m.set i t).set k r) k c:=by
 have u7:=(zS hi).1;have nj:=(zS hk).1;have dz : ∀ (q:Nat) (x:List Rat),((m.set i t).set k r)[q]? = some x->(q=k/\x=r)\/(q≠k/\q=i/\x=t)\/(q≠k/\q≠i/\m[q]? = some x):=λ q x hx=>by
  rw[List.getElem?_set,List.getElem?_set,List.length_set]at hx;by_cases e1:k=q
  ·rw[if_pos e1,if_pos (by omega)]at hx
   exact Or.inl ⟨e1.symm,(Option.some.inj hx).symm⟩
  ·rw[if_neg e1]at hx
   by_cases e2:i=q
   ·rw[if_pos e2,if_pos (by omega)]at hx
    exact Or.inr (Or.inl ⟨Ne.symm e1,e2.symm,(Option.some.inj hx).symm⟩)
   ·rw[if_neg e2]at hx
    exact Or.inr (Or.inr ⟨Ne.symm e1,Ne.symm e2,hx⟩)
 have gn : ∀ x,x∈(m.set i t).set k r->x∈m:=λ x hx=>by
  obtain ⟨q,hq⟩:=List.getElem?_of_mem hx;rcases dz q x hq with ⟨_,rfl⟩|⟨_,_,rfl⟩|⟨_,_,h3⟩
  ·exact zM hi
  ·exact zM hk
  ·exact zM h3
 refine ⟨by rw[List.length_set,List.length_set];exact h.len,λ x hx=>h.wid x (gn x hx),λ v hv x hx=>h.jv v hv x (gn x hx),λ w hw=>h.kr w λ x hx => ?_,h.le,h.cn,?_,h.sk⟩
 ·obtain ⟨q,hq⟩:=List.getElem?_of_mem hx
  have w8:A3 r w=0:=hw r (zM (i:=k) (by rw[List.getElem?_set,if_pos rfl,if_pos (by rw[List.length_set];exact nj)]));by_cases e1:q=i
  ·subst e1
   cases hi.symm.trans hq;exact w8
  ·by_cases e2:q=k
   ·subst e2
    cases hk.symm.trans hq;exact hw t (zM (i:=i) (by rw[List.getElem?_set,if_neg (Ne.symm (Ne.symm e1)),List.getElem?_set,if_pos rfl,if_pos u7]))
   ·exact hw x (zM (i:=q) (by rw[List.getElem?_set,if_neg (Ne.symm e2),List.getElem?_set,if_neg (Ne.symm e1)];exact hq))
 intro e q x hx j hj;rcases dz q x hx with ⟨e1,rfl⟩|⟨_,e2,rfl⟩|⟨_,_,h3⟩
 ·rw[if_neg (by omega),h.w6 e i x hi j hj,if_neg (by omega)]
 ·rw[if_neg (by omega),h.w6 e k x hk j hj,if_neg (by omega)]
 ·exact h.w6 e q x h3 j hj
theorem EG.scale {T B:List (List Rat)} {W:Nat} {n k c:Nat} {m:List (List Rat)} {t:List Rat} (p:Rat) (h:EG T B n W m k c) (hk:m[k]? = some t) (hp:p≠0):EG T B n W (m.set k (t.map (· / p))) k c:=by
 refine ⟨by rw[List.length_set];exact h.len,?_,?_,λ w hw=>h.kr w λ x hx => ?_,h.le,h.cn,?_,h.sk⟩
 ·intro x hx
  rcases OT hx with rfl|⟨j,_,hj⟩
  ·rw[List.length_map];exact h.wid t (zM hk)
  ·exact h.wid x (zM hj)
 ·intro v hv x hx
  rcases OT hx with rfl|⟨j,_,hj⟩
  ·rw[bT,h.jv v hv t (zM hk),Rat.div_def,Rat.zero_mul]
  ·exact h.jv v hv x (zM hj)
 ·obtain ⟨q,hq⟩:=List.getElem?_of_mem hx
  have nj:=(zS hk).1;by_cases e:q=k
  ·subst e
   cases hk.symm.trans hq;have h1:=hw (t.map (· / p)) (zM (i:=q) (by rw[List.getElem?_set,if_pos rfl,if_pos nj]));rw[bT]at h1;have h2:A3 t w=A3 t w/p*p:=by rw[Rat.div_def,Rat.mul_assoc,Rat.inv_mul_cancel _ hp,Rat.mul_one]
   rw[h2,h1,Rat.zero_mul]
  ·exact hw x (zM (i:=q) (by rw[List.getElem?_set,if_neg (Ne.symm e)];exact hq))
 ·intro e q x hx j hj
  rw[List.getElem?_set]at hx;by_cases e1:k=q
  ·rw[if_pos e1]at hx
   split at hx
   ·obtain rfl:=Option.some.inj hx
    rw[lP,h.w6 e k t hk j hj,if_neg (by omega),if_neg (by omega),Rat.div_def,Rat.zero_mul]
   ·cases hx
  ·rw[if_neg e1]at hx
   exact h.w6 e q x hx j hj
structure JV (T B:List (List Rat)) (n W K:Nat) (k c:Nat) (t:List Rat) (m:List (List Rat)) (i:Nat):Prop where
 red:EG T B n W m k c
 ht:m[k]? = some t
 one:t.getD c 0=1
 dn : ∀ (q:Nat) (r:List Rat),q<i->q≠k->m[q]? = some r->r.getD c 0=0
 lo : ∀ (q:Nat) (r:List Rat),q<i->m[q]? = some r->Bs (4*K+1) r
 hi : ∀ (q:Nat) (r:List Rat),i<=q->q≠k->m[q]? = some r->Bs K r
 bt:Bs (2*K) t
theorem JV.start {T B:List (List Rat)} {W:Nat} {n K k c:Nat} {m:List (List Rat)} {t:List Rat} (h:EG T B n W m k c) (hk:m[k]? = some t) (hp:t.getD c 0≠0) (hM : ∀ (q:Nat) (r:List Rat),m[q]? = some r->Bs K r):JV T B n W K k c (t.map (· / t.getD c 0)) (m.set k (t.map (· / t.getD c 0))) 0:=by
 have nj:=(zS hk).1;have vq:=hM k t hk;refine ⟨h.scale _ hk hp,by rw[List.getElem?_set,if_pos rfl,if_pos nj],by rw[lP,Rat.div_def,Rat.mul_inv_cancel _ hp],λ q r h1=>absurd h1 (by omega),λ q r h1=>absurd h1 (by omega),λ q r _ h2 hq => ?_,λ y hy => ?_⟩
 ·rw[List.getElem?_set,if_neg (Ne.symm h2)]at hq
  exact hM q r hq
 ·obtain ⟨z,hz,rfl⟩:=List.mem_map.1 hy
  exact ((vq z hz).td (Bs.getD vq c)).le (by omega)
theorem JV.same {T B:List (List Rat)} {W:Nat} {n K k c i:Nat} {m:List (List Rat)} {t:List Rat} (h:JV T B n W K k c t m i) (hz:i≠k -> ∀ r,m[i]? = some r->r.getD c 0=0):JV T B n W K k c t m (i+1):=by
 refine ⟨h.red,h.ht,h.one,λ q r h1 h2 hq => ?_,λ q r h1 hq => ?_,λ q r h1=>h.hi q r (by omega),h.bt⟩
 ·by_cases e:q=i
  ·subst e;exact hz h2 r hq
  ·exact h.dn q r (by omega) h2 hq
 ·by_cases e:q=i
  ·by_cases e2:q=k
   ·subst e2
    cases h.ht.symm.trans hq;exact λ y hy=>(h.bt y hy).le (by omega)
   ·exact λ y hy=>(h.hi q r (by omega) e2 hq y hy).le (by omega)
  ·exact h.lo q r (by omega) hq
theorem JV.step {T B:List (List Rat)} {W:Nat} {n K k c i:Nat} {m:List (List Rat)} {t r:List Rat} (h:JV T B n W K k c t m i) (hi:m[i]? = some r) (mg:i≠k):JV T B n W K k c t (m.set i (jk (r.getD c 0) r t)) (i+1):=by
 have u7:=(zS hi).1;have bp:=h.red.wid r (zM hi);have aw:=h.red.wid t (zM h.ht);have Fy:r.length=t.length:=by omega
 have dz : ∀ (q:Nat) (x:List Rat),(m.set i (jk (r.getD c 0) r t))[q]? = some x->(q=i/\x=jk (r.getD c 0) r t)\/(q≠i/\m[q]? = some x):=λ q x hx=>by
  rw[List.getElem?_set]at hx;by_cases e:i=q
  ·rw[if_pos e,if_pos (by omega)]at hx
   exact Or.inl ⟨e.symm,(Option.some.inj hx).symm⟩
  ·rw[if_neg e]at hx
   exact Or.inr ⟨Ne.symm e,hx⟩
 refine ⟨⟨by rw[List.length_set];exact h.red.len,?_,?_,λ w hw=>h.red.kr w λ x hx => ?_,h.red.le,h.red.cn,?_,h.red.sk⟩,by rw[List.getElem?_set,if_neg mg];exact h.ht,h.one,?_,?_,?_,h.bt⟩
 ·intro x hx
  obtain ⟨q,hq⟩:=List.getElem?_of_mem hx;rcases dz q x hq with ⟨_,rfl⟩|⟨_,h2⟩
  ·rw[bF Fy];exact bp
  ·exact h.red.wid x (zM h2)
 ·intro v hv x hx
  obtain ⟨q,hq⟩:=List.getElem?_of_mem hx;rcases dz q x hq with ⟨_,rfl⟩|⟨_,h2⟩
  ·rw[bE _ _ _ _ Fy,h.red.jv v hv r (zM hi),h.red.jv v hv t (zM h.ht)]
   grind
  ·exact h.red.jv v hv x (zM h2)
 ·obtain ⟨q,hq⟩:=List.getElem?_of_mem hx
  have vp:A3 t w=0:=hw t (zM (i:=k) (by rw[List.getElem?_set,if_neg mg];exact h.ht));by_cases e:q=i
  ·subst e
   cases hi.symm.trans hq;have h1:=hw _ (zM (i:=q) (by rw[List.getElem?_set,if_pos rfl,if_pos u7]));rw[bE _ _ _ _ Fy,vp]at h1;grind
  ·exact hw x (zM (i:=q) (by rw[List.getElem?_set,if_neg (Ne.symm e)];exact hq))
 ·intro e q x hx j hj
  rcases dz q x hx with ⟨e1,rfl⟩|⟨_,h2⟩
  ·rw[kP Fy,h.red.w6 e i r hi j hj,h.red.w6 e k t h.ht j hj,e1,if_neg (show ¬ k=j by omega)]
   grind
  ·exact h.red.w6 e q x h2 j hj
 ·intro q x h1 h2 hx
  rcases dz q x hx with ⟨e1,rfl⟩|⟨e1,h3⟩
  ·rw[kP Fy,h.one];grind
  ·exact h.dn q x (by omega) h2 h3
 ·intro q x h1 hx
  rcases dz q x hx with ⟨e1,rfl⟩|⟨e1,h3⟩
  ·intro y hy
   obtain ⟨a,ha,b,og,rfl⟩:=kQ hy;have Eb:=h.hi i r (Nat.le_refl _) mg hi;exact ((Eb a ha).lf ((Bs.getD Eb c).mul (h.bt b og))).le (by omega)
  ·exact h.lo q x (by omega) h3
 ·intro q x h1 h2 hx
  rcases dz q x hx with ⟨e1,rfl⟩|⟨e1,h3⟩
  ·omega
  ·exact h.hi q x (by omega) h2 h3
theorem JV.fin {T B:List (List Rat)} {W:Nat} {n K k c:Nat} {m:List (List Rat)} {t:List Rat} (h:JV T B n W K k c t m n) (hc:c<n):EG T B n W m (k+1) (c+1) /\ ∀ (q:Nat) (r:List Rat),m[q]? = some r->Bs (4*K+1) r:=by
 have k7 : ∀ (q:Nat) (r:List Rat),m[q]? = some r->q<n:=λ q r hq=>by
  have:=(zS hq).1
  rw[h.red.len]at this;exact this
 refine ⟨⟨h.red.len,h.red.wid,h.red.jv,h.red.kr,Nat.succ_le_succ h.red.le,hc,λ e q r hq j hj => ?_,λ Ami=>h.red.sk (by omega)⟩,λ q r hq=>h.lo q r (k7 q r hq) hq⟩;have e2:k=c:=by omega
 by_cases e3:j=c
 ·by_cases e4:q=k
  ·subst e4
   cases h.ht.symm.trans hq;rw[e3,h.one,if_pos e2]
  ·rw[e3,h.dn q r (k7 q r hq) e4 hq,if_neg (by omega)]
 ·exact h.red.w6 e2 q r hq j (by omega)
theorem EG.row {T B:List (List Rat)} {n W i:Nat} {m:List (List Rat)} {r:List Rat} (h:EG T B n W m n n) (hi:m[i]? = some r):r.take n=FZ n i:=by
 have bp:=h.wid r (zM hi);refine List.ext_getElem? λ j => ?_
 by_cases hj:j<n
 ·obtain ⟨y,hy⟩ : ∃ y,r[j]? = some y:=⟨_,zE (by omega)⟩
  have h3:=h.w6 rfl i r hi j hj;rw[List.getD_eq_getElem?_getD,hy]at h3;rw[List.getElem?_take,if_pos hj,hy,FZ,List.getElem?_map,List.getElem?_range hj];show some y=some _;rw[show y=(if i=j then 1 else 0:Rat) from h3];show some (if i=j then (1:Rat) else 0)=some (if (j:Int)=(i:Int) then (1:Rat) else 0);by_cases h5:i=j
  ·rw[if_pos h5,if_pos (by omega)]
  ·rw[if_neg h5,if_neg (by omega)]
 ·rw[List.getElem?_eq_none (by rw[List.length_take];omega),List.getElem?_eq_none (by rw[iF];omega)]
theorem EG.sol {T:List (List Rat)} {b:List Rat} {n:Nat} {m:List (List Rat)} (h:EG T (b.map λ x=>[x]) n 1 m n n) (hT:Sq n T) (hb:b.length=n) : ∀ (i:Nat) (t:List Rat) (s:Rat),T[i]? = some t->b[i]? = some s->A3 t (m.map λ r=>r.getD n 0)=s:=by
 intro i t s ht hs;have ku:(m.map λ r=>r.getD n 0).length=n:=by rw[List.length_map];exact h.len
 have hK:EQ m ((m.map λ r=>r.getD n 0)++[-1]):=by
  intro r hr;obtain ⟨j,hj⟩:=List.getElem?_of_mem hr;have aj:=(zS hj).1;rw[h.len]at aj;have bp:=h.wid r hr;rw[<-List.take_append_drop n r,KN _ _ _ _ (by rw[List.length_take,ku];omega),h.row hj,bX ku aj];have e1:(m.map λ r=>r.getD n 0).getD j 0=r.getD n 0:=by
   rw[List.getD_eq_getElem?_getD,List.getElem?_map,hj];rfl
  have e2:r.drop n=[r.getD n 0]:=by
   rw[List.drop_eq_getElem_cons (by omega),List.drop_of_length_le (by omega),List.getD_eq_getElem?_getD,zE (by omega)];rfl
  rw[e1,e2];simp only[A3];grind
 have h1:=h.kr _ hK (t++[s]) (zM (i:=i) (by
  rw[CO,List.getElem?_zipWith,ht,List.getElem?_map,hs];rfl))
 rw[KN _ _ _ _ (by rw[hT.at ht,ku])]at h1;simp only[A3]at h1;grind
theorem EG.nsT {T B:List (List Rat)} {n W:Nat} {m:List (List Rat)} (h:EG T B n W m n n) (hT:Sq n T):NS n T:=by
 intro X hX hk j;have hK:EQ (CO T B) (X++List.replicate W 0):=by
  intro r hr;obtain ⟨i,hi⟩:=List.getElem?_of_mem hr;rw[CO,List.getElem?_zipWith]at hi;cases ht:T[i]? with
  | none=>rw[ht]at hi;cases hi
  | some t =>
   cases hb:B[i]? with
   | none=>rw[ht,hb]at hi;cases hi
   | some b =>
    rw[ht,hb]at hi;obtain rfl:=Option.some.inj hi;rw[KN _ _ _ _ (by rw[hT.at ht,hX]),TB,Rat.add_zero];exact hk t (zM ht)
 have hm:=h.jv _ hK;by_cases hj:j<n
 ·obtain ⟨r,hr⟩ : ∃ r,m[j]? = some r:=⟨_,zE (by rw[h.len];exact hj)⟩
  have h1:=hm r (zM hr);have bp:=h.wid r (zM hr);rw[<-List.take_append_drop n r,KN _ _ _ _ (by rw[List.length_take,hX];omega),TB,h.row hr,bX hX hj,Rat.add_zero]at h1;exact h1
 ·rw[List.getD_eq_getElem?_getD,List.getElem?_eq_none (by omega)];rfl
end Go.c5
