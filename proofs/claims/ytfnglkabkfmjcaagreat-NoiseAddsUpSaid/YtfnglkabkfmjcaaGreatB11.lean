/-
  Transfer functions of systems, plain: the numerator is the product of the denominator and the impulse response.
-/
import Derived.Test.YtfnglkabkfmjcaaGreatB10
set_option linter.unusedSimpArgs false
set_option linter.unusedVariables false
set_option linter.unnecessarySimpa false
namespace Go.c9
theorem IW : ∀ a b:List Rat,A0 a b=A0 b a
 | [],[]=>rfl
 | [],_::_=>rfl
 | _::_,[]=>rfl
 | x::a,y::b=>by simp only[A0,IW a b,Rat.mul_comm]
theorem YB : ∀ (v:List Rat) (n:Nat),A0 (List.replicate n 0) v=0
 | [],n=>VD _
 | y::v,0=>rfl
 | y::v,n+1=>by rw[List.replicate_succ];simp only[A0,YB v n];grind
theorem VE (v:List Rat) (n:Nat):A0 v (List.replicate n 0)=0:=by rw[IW,YB]
theorem kK (x:Rat) : ∀ a b:List Rat,A0 (a.map (x * ·)) b=x*A0 a b
 | [],_=>by simp [A0]
 | _::_,[]=>by simp [A0]
 | p::a,q::b=>by simp only[List.map_cons,A0,kK x a b];grind
theorem Ajk (u:List Rat) (n:Nat):EH u [] n=List.replicate n 0:=by
 refine List.ext_getElem? λ j => ?_
 simp only[EH,DB,List.map_nil,VD,List.getElem?_map,List.getElem?_replicate];by_cases h:j<n
 ·rw[List.getElem?_range h,if_pos h];rfl
 ·rw[List.getElem?_eq_none (by simp;omega),if_neg h];rfl
theorem Ajl (m:List (List Rat)) (n:Nat):EH [] m n=List.replicate n 0:=by
 refine List.ext_getElem? λ j => ?_
 simp only[EH,A0,List.getElem?_map,List.getElem?_replicate];by_cases h:j<n
 ·rw[List.getElem?_range h,if_pos h];rfl
 ·rw[List.getElem?_eq_none (by simp;omega),if_neg h];rfl
theorem Ajj (x:Rat) (u r:List Rat) (m:List (List Rat)) (n:Nat) (hr:r.length=n):EH (x::u) (r::m) n=U6 (r.map (x * ·)) (EH u m n):=by
 refine List.ext_getElem? λ j => ?_
 simp only[EH,U6,List.getElem?_map,List.getElem?_zipWith];by_cases h:j<n
 ·rw[List.getElem?_range h]
  obtain ⟨y,hy⟩ : ∃ y,r[j]? = some y:=⟨_,zE (by omega)⟩;rw[hy];simp only[Option.map_some,DB,List.map_cons,A0,List.getD_eq_getElem?_getD,hy,Option.getD_some]
 ·rw[List.getElem?_eq_none (by simp;omega),List.getElem?_eq_none (l:=r) (by omega)]
  rfl
theorem uK {n:Nat} {v:List Rat} : ∀ (m:List (List Rat)) (u:List Rat),(∀ r∈m,r.length=n)->A0 (EH u m n) v=A0 u (D5 m v)
 | [],u,_=>by rw[Ajk,YB,D5,List.map_nil,VD]
 | r::m,[],_=>by rw[Ajl,YB];rfl
 | r::m,x::u,h=>by
  have hr:=h r (by simp);rw[Ajj x u r m n hr,IW,kJ (by rw[List.length_map,zF];exact hr),IW v,IW v,kK,uK m u λ r hr=>h r (by simp [hr])];rfl
theorem Ajo {n:Nat} (a m:List (List Rat)) (v:List Rat) (h : ∀ r∈m,r.length=n):D5 (F2 a m n) v=D5 a (D5 m v):=by
 simp only[D5,F2,List.map_map];exact List.map_congr_left λ r _=>uK m r h
theorem Ajn {n:Nat} {b:List Rat} (hb:b.length=n):D5 (lZ n) b=b:=by
 have unit : ∀ (k n i:Nat) (b:List Rat),b.length=n->A0 ((List.range' k n).map λ a:Nat=>if (a:Int)=((k+i:Nat):Int) then 1 else 0) b=b.getD i 0:=by
  intro k n;induction n generalizing k with
  | zero=>intro i b hb;obtain rfl:=List.eq_nil_of_length_eq_zero hb;simp [A0]
  | succ n ih =>
   intro i b hb;cases b with
   | nil=>simp at hb
   | cons y b =>
    rw[List.range'_succ,List.map_cons,A0];cases i with
    | zero =>
     have hz:((List.range' (k+1) n).map λ a:Nat=>if (a:Int)=((k+0:Nat):Int) then (1:Rat) else 0)=List.replicate n 0:=by
      rw[List.eq_replicate_iff];refine ⟨by simp,λ x hx => ?_⟩;obtain ⟨a,ha,rfl⟩:=List.mem_map.1 hx;rw[if_neg];have:=(List.mem_range'_1.1 ha).1
      omega
     rw[hz,YB,if_pos (by simp)];simp [Rat.add_zero]
    | succ i =>
     have:=ih (k+1) i b (by simpa using hb)
     rw[show k+1+i=k+(i+1) by omega]at this;rw[this,if_neg (by omega),List.getD_cons_succ];grind
 refine List.ext_getElem? λ r => ?_
 simp only[D5,lZ,List.getElem?_map];by_cases h:r<n
 ·rw[List.getElem?_range h]
  have:=unit 0 n r b hb
  rw[Nat.zero_add]at this;simp only[Option.map_some,E5,List.range_eq_range']at this ⊢;rw[this,List.getD_eq_getElem?_getD,zE (by omega)];rfl
 ·rw[List.getElem?_eq_none (by simp;omega),List.getElem?_eq_none (by omega)]
  rfl
def wQ (S:CU):Nat->List Rat
 | 0=>S.b
 | j+1=>D5 S.a (wQ S j)
def conv (A h:Nat->Rat) (K:Nat):Nat->Rat
 | 0=>0
 | a+1=>conv A h K a+A a*h (K-a)
def EV (m:List (List Rat)) (X:List Rat):Prop := ∀ r∈m,A0 r X=0
def comb (p f l:Rat) (r t:List Rat):List Rat:=List.zipWith (λ x y=>(x*p-y*f)/l) r t
theorem tG {p f l:Rat} {r t:List Rat} (h:r.length=t.length):(comb p f l r t).length=r.length:=by simp [comb,h]
theorem tF (p f l:Rat) : ∀ (r t X:List Rat),r.length=t.length->A0 (comb p f l r t) X=(p*A0 r X-f*A0 t X)/l
 | [],[],X,_=>by
  show A0 [] X=_;simp only[A0,Rat.div_def];grind
 | x::r,y::t,[],_=>by
  simp only[comb,List.zipWith_cons_cons,A0,Rat.div_def];grind
 | x::r,y::t,z::X,h=>by
  have ih:=tF p f l r t X (by simpa using h);simp only[comb]at ih;simp only[comb,List.zipWith_cons_cons,A0,ih,Rat.div_def];grind
theorem Aep {p f l:Rat} {r t:List Rat} {j:Nat} {x y:Rat} (hx:r[j]? = some x) (hy:t[j]? = some y):(comb p f l r t)[j]? = some ((x*p-y*f)/l):=by
 simp [comb,List.getElem?_zipWith,hx,hy]
theorem TF {m:List (List Rat)} {i:Nat} {x r:List Rat} (h:r∈m.set i x):r=x \/ ∃ j,j≠i/\m[j]? = some r:=by
 obtain ⟨j,hj⟩:=List.getElem?_of_mem h;rw[List.getElem?_set]at hj;by_cases e:i=j
 ·subst e
  rw[if_pos rfl]at hj;split at hj
  ·exact Or.inl (Option.some.inj hj).symm
  ·cases hj
 ·rw[if_neg e]at hj
  exact Or.inr ⟨j,Ne.symm e,hj⟩
theorem AiQ {m:List (List Rat)} {i k:Nat} {r t:List Rat} {p f l:Rat} (hi:m[i]? = some r) (hk:m[k]? = some t) (nn:k≠i) (hl:r.length=t.length) (hp:p≠0) (h0:l≠0) (X:List Rat):EV (m.set i (comb p f l r t)) X↔EV m X:=by
 have hc:=tF p f l r t X hl;have w9:=(zS hi).1;constructor
 ·intro h r' ig
  have ht:A0 t X=0:=h t (by
   refine zM (i:=k) ?_;rw[List.getElem?_set,if_neg (Ne.symm nn)];exact hk)
  have hn:A0 (comb p f l r t) X=0:=h _ (zM (i:=i) (by rw[List.getElem?_set,if_pos rfl,if_pos w9]));rw[hc,ht]at hn;have s9:A0 r X=0:=by
   have e1:=Rat.div_mul_cancel h0 (a:=p*A0 r X-f*0);rw[hn]at e1;have e2:p*A0 r X=0:=by grind
   rcases Rat.mul_eq_zero.1 e2 with h|h
   ·exact absurd h hp
   ·exact h
  obtain ⟨j,hj⟩:=List.getElem?_of_mem ig;by_cases e:j=i
  ·subst e
   obtain rfl:=Option.some.inj (hi.symm.trans hj);exact s9
  ·exact h r' (zM (i:=j) (by rw[List.getElem?_set,if_neg (Ne.symm e)];exact hj))
 ·intro h r' ig
  rcases TF ig with rfl|⟨j,_,hj⟩
  ·rw[hc,h r (zM hi),h t (zM hk),Rat.div_def];grind
  ·exact h r' (zM hj)
theorem AiP {m:List (List Rat)} {i k:Nat} {a b:List Rat} (hi:m[i]? = some a) (hk:m[k]? = some b) (X:List Rat):EV ((m.set i b).set k a) X↔EV m X:=by
 have w9:=(zS hi).1;have ox:=(zS hk).1;constructor
 ·intro h r hr
  obtain ⟨j,hj⟩:=List.getElem?_of_mem hr;by_cases e1:j=k
  ·subst e1
   obtain rfl:=Option.some.inj (hk.symm.trans hj);by_cases e2:i=j
   ·subst e2
    obtain rfl:=Option.some.inj (hi.symm.trans hk);exact h _ (zM (i:=i) (by rw[List.getElem?_set,if_pos rfl,List.length_set,if_pos w9]))
   ·exact h _ (zM (i:=i) (by rw[List.getElem?_set,if_neg (Ne.symm e2),List.getElem?_set,if_pos rfl,if_pos w9]))
  ·by_cases e2:j=i
   ·subst e2
    obtain rfl:=Option.some.inj (hi.symm.trans hj);exact h _ (zM (i:=k) (by rw[List.getElem?_set,if_pos rfl,List.length_set,if_pos ox]))
   ·exact h _ (zM (i:=j) (by rw[List.getElem?_set,if_neg (Ne.symm e1),List.getElem?_set,if_neg (Ne.symm e2)];exact hj))
 ·intro h r hr
  rcases TF hr with rfl|⟨j,_,hj⟩
  ·exact h _ (zM hi)
  ·rcases TF (zM hj) with rfl|⟨q,_,hq⟩
   ·exact h _ (zM hk)
   ·exact h _ (zM hq)
structure EE (m:List (List Rat)) (W c:Nat) (P:List Nat):Prop where
 lr : ∀ r∈m,r.length=W
 pl:P.length<=m.length
 inc : ∀ i j p q:Nat,i<j->P[i]? = some p->P[j]? = some q->p<q
 pb : ∀ p∈P,p<c
 nz : ∀ (i p:Nat) (r:List Rat),P[i]? = some p->m[i]? = some r->r.getD p 0≠0 /\ ∀ j,j<p->r.getD j 0=0
 zr : ∀ (i:Nat) (r:List Rat),P.length<=i->m[i]? = some r -> ∀ j,j<c->r.getD j 0=0
theorem EE.start {m:List (List Rat)} {W:Nat} (h : ∀ r∈m,r.length=W):EE m W 0 [] :=
 ⟨h,Nat.zero_le _,λ i j p q _ h=>by simp at h,(λ p h=>by cases h),(λ i p r h=>by simp at h),λ i r _ _ j hj=>absurd hj (by omega)⟩
theorem EE.skip {m:List (List Rat)} {W c:Nat} {P:List Nat} (h:EE m W c P) (hz : ∀ i r,P.length<=i->m[i]? = some r->r.getD c 0=0):EE m W (c+1) P :=
 ⟨h.lr,h.pl,h.inc,λ p hp=>Nat.lt_succ_of_lt (h.pb p hp),h.nz,λ i r hi hr j hj=>by
  by_cases e:j=c
  ·subst e;exact hz i r hi hr
  ·exact h.zr i r hi hr j (by omega)⟩
theorem EE.swap {m:List (List Rat)} {W c i k:Nat} {P:List Nat} {a b:List Rat} (h:EE m W c P) (hi:m[i]? = some a) (hk:m[k]? = some b) (h1:P.length<=i) (h2:P.length<=k):EE ((m.set i b).set k a) W c P:=by
 have hg : ∀ q,q<P.length->((m.set i b).set k a)[q]? = m[q]? := λ q hq=>by
  rw[List.getElem?_set,if_neg (by omega),List.getElem?_set,if_neg (by omega)]
 have hm : ∀ q r,P.length<=q->((m.set i b).set k a)[q]? = some r -> ∃ q',P.length<=q'/\m[q']? = some r:=λ q r hq hr=>by
  rw[List.getElem?_set]at hr;split at hr
  ·split at hr
   ·obtain rfl:=Option.some.inj hr;exact ⟨i,h1,hi⟩
   ·cases hr
  ·rw[List.getElem?_set]at hr
   split at hr
   ·split at hr
    ·obtain rfl:=Option.some.inj hr;exact ⟨k,h2,hk⟩
    ·cases hr
   ·exact ⟨q,hq,hr⟩
 refine ⟨λ r hr => ?_,by simpa using h.pl,h.inc,h.pb,λ q p r hp hr => ?_,λ q r hq hr j hj => ?_⟩
 ·rcases TF hr with rfl|⟨j,_,hj⟩
  ·exact h.lr _ (zM hi)
  ·rcases TF (zM hj) with rfl|⟨q,_,hq⟩
   ·exact h.lr _ (zM hk)
   ·exact h.lr _ (zM hq)
 ·rw[hg q (zS hp).1]at hr
  exact h.nz q p r hp hr
 ·obtain ⟨q',h3,h4⟩:=hm q r hq hr
  exact h.zr q' r h3 h4 j hj
theorem EE.Hx {m:List (List Rat)} {W c:Nat} {P:List Nat} {t:List Rat} (h:EE m W c P) (ht:m[P.length]? = some t) (hn:t.getD c 0≠0) (hz : ∀ i r,P.length<i->m[i]? = some r->r.getD c 0=0):EE m W (c+1) (P++[c]):=by
 have uf:=(zS ht).1;refine ⟨h.lr,by simp;omega,λ i j p q fj hp hq => ?_,λ p hp => ?_,λ i p r hp hr => ?_,λ i r hi hr j hj => ?_⟩
 ·have cp:=(zS hq).1
  rw[List.length_append,List.length_singleton]at cp;rw[List.getElem?_append_left (by omega)]at hp;by_cases e:j<P.length
  ·rw[List.getElem?_append_left e]at hq
   exact h.inc i j p q fj hp hq
  ·rw[List.getElem?_append_right (by omega),show j-P.length=0 by omega]at hq
   obtain rfl:=Option.some.inj hq;exact h.pb p (zM hp)
 ·rcases List.mem_append.1 hp with hp|hp
  ·exact Nat.lt_succ_of_lt (h.pb p hp)
  ·obtain rfl:=List.mem_singleton.1 hp;omega
 ·by_cases e:i<P.length
  ·rw[List.getElem?_append_left e]at hp
   exact h.nz i p r hp hr
  ·have w9:=(zS hp).1
   rw[List.length_append,List.length_singleton]at w9;rw[List.getElem?_append_right (by omega),show i-P.length=0 by omega]at hp;obtain rfl:=Option.some.inj hp;obtain rfl:i=P.length:=by omega
   obtain rfl:=Option.some.inj (ht.symm.trans hr);exact ⟨hn,λ j hj=>h.zr P.length _ (Nat.le_refl _) ht j hj⟩
 ·rw[List.length_append,List.length_singleton]at hi
  by_cases e:j=c
  ·subst e;exact hz i r (by omega) hr
  ·exact h.zr i r (by omega) hr j (by omega)
theorem EE.diag {m:List (List Rat)} {W c:Nat} {P:List Nat} (h:EE m W c P) (hP:P.length=c) : ∀ i p:Nat,P[i]? = some p->p=i:=by
 have up : ∀ d i p:Nat,P[i]? = some p->i+d<c->p+d<c:=by
  intro d;induction d with
  | zero=>intro i p hp _;exact h.pb p (zM hp)
  | succ d ih =>
   intro i p hp hi;obtain ⟨q,hq⟩ : ∃ q,P[i+1]? = some q:=⟨_,zE (by omega)⟩;have h1:=h.inc i (i+1) p q (by omega) hp hq;have h2:=ih (i+1) q hq (by omega);omega
 have dn : ∀ i p:Nat,P[i]? = some p->i<=p:=by
  intro i;induction i with
  | zero=>intro p _;omega
  | succ i ih =>
   intro p hp;have w9:=(zS hp).1;obtain ⟨q,hq⟩ : ∃ q,P[i]? = some q:=⟨_,zE (by omega)⟩;have h1:=h.inc i (i+1) q p (by omega) hq hp;have h2:=ih q hq;omega
 intro i p hp;have w9:=(zS hp).1;have h1:=dn i p hp;have h2:=up (c-1-i) i p hp (by omega);omega
def BF (f:Nat->Rat):Nat->Rat
 | 0=>0
 | n+1=>BF f n+f n
theorem JM {f g:Nat->Rat} : ∀ n,(∀ j,j<n->f j=g j)->BF f n=BF g n
 | 0,_=>rfl
 | n+1,h=>by rw[BF,BF,JM n λ j hj=>h j (by omega),h n (by omega)]
theorem XC {f:Nat->Rat} : ∀ n,(∀ j,j<n->f j=0)->BF f n=0
 | 0,_=>rfl
 | n+1,h=>by rw[BF,XC n λ j hj=>h j (by omega),h n (by omega),Rat.add_zero]
theorem Tr {f:Nat->Rat} {n:Nat} : ∀ d,(∀ j,n<=j->f j=0)->BF f (n+d)=BF f n
 | 0,_=>rfl
 | d+1,h=>by rw[<-Nat.add_assoc,BF,Tr d h,h (n+d) (by omega),Rat.add_zero]
theorem pQ {f:Nat->Rat} {k:Nat} : ∀ n,k<n->(∀ j,j<n->j≠k->f j=0)->BF f n=f k
 | n+1,hk,h=>by
  by_cases e:k=n
  ·subst e
   rw[BF,XC k λ j hj=>h j (by omega) (by omega),Rat.zero_add]
  ·rw[BF,pQ n (by omega) λ j hj=>h j (by omega),h n (by omega) (Ne.symm e),Rat.add_zero]
theorem Ts (R y:Nat->Rat) (v:Rat) (k:Nat) : ∀ n,BF (λ j=>R j*(if j=k then v else y j)) n=BF (λ j=>R j*y j) n+if k<n then R k*(v-y k) else 0
 | 0=>by simp [BF,Rat.add_zero]
 | n+1=>by
  rw[BF,BF,Ts R y v k n];by_cases e:n=k
  ·subst e
   rw[if_pos rfl,if_neg (Nat.lt_irrefl n),if_pos (Nat.lt_succ_self n)];grind
  ·rw[if_neg e]
   by_cases h:k<n
   ·rw[if_pos h,if_pos (by omega)];grind
   ·rw[if_neg h,if_neg (by omega)];grind
theorem Tp (f:Nat->Rat) : ∀ n,BF f (n+1)=f 0+BF (λ j=>f (j+1)) n
 | 0=>by simp only[BF];grind
 | n+1=>by rw[BF,Tp f n,BF];grind
theorem Z3 : ∀ (r X:List Rat) (n:Nat),r.length<=n->A0 r X=BF (λ j=>r.getD j 0*X.getD j 0) n
 | [],X,n,_=>by rw[XC n λ j _=>by simp];rfl
 | x::r,[],n,_=>by rw[VD,XC n λ j _=>by simp]
 | x::r,y::X,0,h=>by simp at h
 | x::r,y::X,n+1,h=>by
  rw[Tp,A0,Z3 r X n (by simpa using h)];simp
def A4 (m:List (List Rat)) (i j:Nat):Rat:=(m.getD i []).getD j 0
theorem J5 {m:List (List Rat)} {i:Nat} {r:List Rat} (h:m[i]? = some r) (j:Nat):A4 m i j=r.getD j 0:=by
 rw[A4,show m.getD i []=r by rw[List.getD_eq_getElem?_getD,h];rfl]
def X1 (R:Nat->Nat->Rat) (c:Nat):Prop := ∀ i,i<c->R i i≠0 /\ ∀ j,j<i->R i j=0
theorem Rx {R:Nat->Nat->Rat} {c:Nat} (h:X1 R c) (f:Nat->Rat) : ∀ d,d<=c -> ∃ y:Nat->Rat,∀ i,c-d<=i->i<c->BF (λ j=>R i j*y j) c=f i
 | 0,_=>⟨λ_=>0,λ i h1 h2=>absurd h2 (by omega)⟩
 | d+1,hd=>by
  obtain ⟨y,hy⟩:=Rx h f d (by omega);obtain ⟨k,hk⟩ : ∃ k,k=c-(d+1):=⟨_,rfl⟩;have Mi:k<c:=by omega
  refine ⟨λ j=>if j=k then y k+(f k-BF (λ j=>R k j*y j) c)/R k k else y j,λ i h1 h2 => ?_⟩;rw[Ts (R i) y _ k c,if_pos Mi];by_cases e:i=k
  ·subst e
   have h0:=(h i Mi).1;have:=Rat.div_mul_cancel h0 (a:=f i-BF (λ j=>R i j*y j) c)
   grind
  ·rw[hy i (by omega) h2,(h i h2).2 k (by omega)];grind
theorem Ry {R:Nat->Nat->Rat} {c:Nat} (h:X1 R c) {y:Nat->Rat} (hy : ∀ i,i<c->BF (λ j=>R i j*y j) c=0) : ∀ d,d<=c -> ∀ j,c-d<=j->j<c->y j=0
 | 0,_=>λ j h1 h2=>absurd h2 (by omega)
 | d+1,hd=>λ j h1 h2=>by
  have ih:=Ry h hy d (by omega);by_cases e:c-d<=j
  ·exact ih j e h2
  ·have h3:=hy j h2
   rw[pQ c h2 λ q hq hn=>by
    by_cases e2:q<j
    ·rw[(h j h2).2 q e2,Rat.zero_mul]
    ·rw[ih q (by omega) hq,Rat.mul_zero]]at h3
   rcases Rat.mul_eq_zero.1 h3 with h4|h4
   ·exact absurd h4 (h j h2).1
   ·exact h4
theorem EE.low {m:List (List Rat)} {W c:Nat} {P:List Nat} (h:EE m W c P) : ∀ i p:Nat,P[i]? = some p->i<=p
 | 0,p,_=>Nat.zero_le p
 | i+1,p,hp=>by
  have w9:=(zS hp).1;obtain ⟨q,hq⟩ : ∃ q,P[i]? = some q:=⟨_,zE (by omega)⟩;have h1:=h.inc i (i+1) q p (by omega) hq hp;have h2:=h.low i q hq;omega
theorem EE.le {m:List (List Rat)} {W c:Nat} {P:List Nat} (h:EE m W c P):P.length<=c:=by
 cases e:P.length with
 | zero=>exact Nat.zero_le c
 | succ k =>
  obtain ⟨q,hq⟩ : ∃ q,P[k]? = some q:=⟨_,zE (by omega)⟩;have h1:=h.low k q hq;have h2:=h.pb q (zM hq);omega
theorem EE.wide {m:List (List Rat)} {W c n:Nat} {P:List Nat} (h:EE m W c P) (hP:P.length=m.length) (hn:c<=n):EE m W n P :=
 ⟨h.lr,h.pl,h.inc,λ p hp=>Nat.lt_of_lt_of_le (h.pb p hp) hn,h.nz,λ i r hi hr=>by
  have:=(zS hr).1
  omega⟩
theorem Qd {m:List (List Rat)} {W i n:Nat} {r X:List Rat} (hr:m[i]? = some r) (hl:r.length=W) (hn:n<=W) (hX : ∀ j,n<=j->X.getD j 0=0):A0 r X=BF (λ j=>A4 m i j*X.getD j 0) n:=by
 obtain ⟨d,rfl⟩:=Nat.exists_eq_add_of_le hn;rw[Z3 r X (n+d) (by omega),Tr d λ j hj=>by rw[hX j hj,Rat.mul_zero]];exact JM n λ j _=>by rw[J5 hr]
theorem EE.Pg {m:List (List Rat)} {W n c:Nat} {P:List Nat} (h:EE m W n P) (hc : ∀ i,i<c->P[i]? = some i):X1 (A4 m) c:=λ i hi=>by
 have h1:=(zS (hc i hi)).1;obtain ⟨r,hr⟩ : ∃ r,m[i]? = some r:=⟨_,zE (Nat.lt_of_lt_of_le h1 h.pl)⟩;have:=h.nz i i r (hc i hi) hr
 rw[J5 hr];exact ⟨this.1,λ j hj=>by rw[J5 hr];exact this.2 j hj⟩
theorem EE.full {m:List (List Rat)} {W n:Nat} {P:List Nat} (h:EE m W n P) (hP:P.length=n) (hW:n<=W) {X:List Rat} (hk:EV m X) (hX : ∀ j,n<=j->X.getD j 0=0) (j:Nat):X.getD j 0=0:=by
 have hd : ∀ i,i<n->P[i]? = some i:=λ i hi=>by
  obtain ⟨q,hq⟩ : ∃ q,P[i]? = some q:=⟨_,zE (by omega)⟩;rw[hq,h.diag hP i q hq]
 have ht:=h.Pg hd;by_cases e:j<n
 ·refine Ry ht (y:=λ j=>X.getD j 0) (λ i hi => ?_) n (Nat.le_refl n) j (by omega) e
  obtain ⟨r,hr⟩ : ∃ r,m[i]? = some r:=⟨_,zE (by have:=h.pl;omega)⟩;rw[<-Qd hr (h.lr r (zM hr)) hW hX];exact hk r (zM hr)
 ·exact hX j (by omega)
theorem EE.gap {m:List (List Rat)} {W n:Nat} {P:List Nat} (h:EE m W n P) : ∀ c:Nat,c<=P.length->(∀ i:Nat,i<c->P[i]? = some i) \/ ∃ k,(∀ i,i<k->P[i]? = some i) /\ ∃ p:Nat,P[k]? = some p/\k<p
 | 0,_=>Or.inl λ i hi=>absurd hi (by omega)
 | c+1,hc=>by
  rcases h.gap c (by omega) with h1|h1
  ·obtain ⟨q,hq⟩ : ∃ q,P[c]? = some q:=⟨_,zE (by omega)⟩
   have h2:=h.low c q hq;by_cases e:q=c
   ·subst e
    exact Or.inl λ i hi=>by
     by_cases e:i=q
     ·subst e;exact hq
     ·exact h1 i (by omega)
   ·exact Or.inr ⟨c,h1,q,hq,by omega⟩
  ·exact Or.inr h1
theorem eJ (f:Nat->Rat) (W j:Nat):((List.range W).map f).getD j 0=if j<W then f j else 0:=by
 rw[List.getD_eq_getElem?_getD,List.getElem?_map];by_cases h:j<W
 ·rw[List.getElem?_range h,if_pos h];rfl
 ·rw[List.getElem?_eq_none (by simp;omega),if_neg h];rfl
theorem EE.less {m:List (List Rat)} {W n:Nat} {P:List Nat} (h:EE m W n P) (hP:P.length<n) (hW:n<=W) : ∃ X:List Rat,X.length=W/\EV m X/\(∀ j,n<=j->X.getD j 0=0) /\ ∃ j,X.getD j 0≠0:=by
 obtain ⟨c,ou,hc,hz⟩ : ∃ c,c<n/\(∀ i,i<c->P[i]? = some i) /\ ∀ i r,c<=i->m[i]? = some r -> ∀ j,j<=c->r.getD j 0=0:=by
  rcases h.gap P.length (Nat.le_refl _) with h1|⟨k,h1,p,h2,h3⟩
  ·exact ⟨P.length,hP,h1,λ i r hi hr j hj=>h.zr i r hi hr j (by omega)⟩
  ·refine ⟨k,Nat.lt_trans h3 (h.pb p (zM h2)),h1,λ i r hi hr j hj => ?_⟩
   by_cases e:i<P.length
   ·obtain ⟨q,hq⟩ : ∃ q,P[i]? = some q:=⟨_,zE e⟩
    refine (h.nz i q r hq hr).2 j ?_;by_cases e2:i=k
    ·subst e2
     obtain rfl:=Option.some.inj (h2.symm.trans hq);omega
    ·have:=h.inc k i p q (by omega) h2 hq
     omega
   ·exact h.zr i r (by omega) hr j (by have:=h.pb p (zM h2);omega)
 obtain ⟨y,hy⟩:=Rx (h.Pg hc) (λ i=>A4 m i c) c (Nat.le_refl c);have hg : ∀ j,((List.range W).map λ j=>if j<c then y j else if j=c then (-1:Rat) else 0).getD j 0=if j<c then y j else if j=c then (-1:Rat) else 0:=λ j=>by
  rw[eJ];by_cases e:j<W
  ·rw[if_pos e]
  ·rw[if_neg e,if_neg (by omega),if_neg (by omega)]
 refine ⟨(List.range W).map λ j=>if j<c then y j else if j=c then (-1:Rat) else 0,by simp,λ r hr => ?_,λ j hj => ?_,c,?_⟩
 ·obtain ⟨i,hi⟩:=List.getElem?_of_mem hr
  rw[Qd hi (h.lr r hr) (show c+1<=W by omega) λ j hj=>by rw[hg,if_neg (by omega),if_neg (by omega)],BF,hg,if_neg (Nat.lt_irrefl c),if_pos rfl];by_cases e:i<c
  ·rw[JM c (g:=λ j=>A4 m i j*y j) λ j hj=>by rw[hg,if_pos hj],hy i (by omega) e];grind
  ·rw[XC c λ j hj=>by rw[J5 hi,hz i r (by omega) hi j (by omega),Rat.zero_mul],J5 hi,hz i r (by omega) hi c (Nat.le_refl c),Rat.zero_mul,Rat.add_zero]
 ·rw[hg,if_neg (by omega),if_neg (by omega)]
 ·rw[hg,if_neg (Nat.lt_irrefl c),if_pos rfl]
  decide
def ZL (m a:List (List Rat)):Prop:=m.length=a.length /\ ∀ (i:Nat) (r:List Rat),a[i]? = some r -> ∃ s:Rat,s≠0/\m[i]? = some (r.map (· * s))
theorem YA (x:Rat) : ∀ a b:List Rat,A0 (a.map (· * x)) b=A0 a b*x
 | [],b=>by simp [A0]
 | a::l,[]=>by rw[VD,VD,Rat.zero_mul]
 | a::l,b::k=>by
  simp only[List.map_cons,A0,YA x l k];grind
theorem ZL.kt {m a:List (List Rat)} (h:ZL m a) (X:List Rat):EV m X↔EV a X:=by
 constructor
 ·intro hk r hr
  obtain ⟨i,hi⟩:=List.getElem?_of_mem hr;obtain ⟨s,hs,hm⟩:=h.2 i r hi;have:=hk _ (zM hm)
  rw[YA]at this;rcases Rat.mul_eq_zero.1 this with h|h
  ·exact h
  ·exact absurd h hs
 ·intro hk r hr
  obtain ⟨i,hi⟩:=List.getElem?_of_mem hr;obtain ⟨q,hq⟩ : ∃ q,a[i]? = some q:=⟨_,zE (by have:=(zS hi).1;have:=h.1;omega)⟩;obtain ⟨s,hs,hm⟩:=h.2 i q hq;obtain rfl:=Option.some.inj (hi.symm.trans hm);rw[YA,hk q (zM hq),Rat.zero_mul]
def CO (a b:List (List Rat)):List (List Rat):=List.zipWith (· ++ ·) a b
def NS (n:Nat) (a:List (List Rat)):Prop := ∀ X:List Rat,X.length=n->EV a X -> ∀ j,X.getD j 0=0
theorem O3 : ∀ (u y v z:List Rat),u.length=y.length->A0 (u++v) (y++z)=A0 u y+A0 v z
 | [],[],v,z,_=>by simp [A0,Rat.zero_add]
 | x::u,w::y,v,z,h=>by
  simp only[List.cons_append,A0,O3 u y v z (by simpa using h)];grind
theorem VN {a b:List (List Rat)} {i:Nat} {r s:List Rat} (hr:a[i]? = some r) (hs:b[i]? = some s):(CO a b)[i]? = some (r++s):=by
 simp [CO,List.getElem?_zipWith,hr,hs]
theorem mJ {n:Nat} {a b:List (List Rat)} (hl:a.length=b.length) (ha : ∀ r∈a,r.length=n) (y z:List Rat) (hy:y.length=n):EV (CO a b) (y++z) ↔ ∀ (i:Nat) (r s:List Rat),a[i]? = some r->b[i]? = some s->A0 r y+A0 s z=0:=by
 constructor
 ·intro h i r s hr hs
  rw[<-O3 r y s z (by rw[ha r (zM hr),hy])];exact h _ (zM (VN hr hs))
 ·intro h q hq
  obtain ⟨i,hi⟩:=List.getElem?_of_mem hq;have w9:=(zS hi).1;simp only[CO,List.length_zipWith]at w9;obtain ⟨r,hr⟩ : ∃ r,a[i]? = some r:=⟨_,zE (by omega)⟩;obtain ⟨s,hs⟩ : ∃ s,b[i]? = some s:=⟨_,zE (by omega)⟩;obtain rfl:=Option.some.inj ((VN hr hs).symm.trans hi);rw[O3 r y s z (by rw[ha r (zM hr),hy])];exact h i r s hr hs
theorem AfL {X:List Rat} (h : ∀ j,X.getD j 0=0) (r:List Rat):A0 r X=0:=by
 rw[Z3 r X r.length (Nat.le_refl _)];exact XC _ λ j _=>by rw[h,Rat.mul_zero]
theorem AjY {m a b:List (List Rat)} {w n:Nat} {P:List Nat} (h:EE m (n+w) n P) (hk : ∀ X,EV m X↔EV (CO a b) X) (hl:a.length=b.length) (ha : ∀ r∈a,r.length=n):P.length=n↔NS n a:=by
 constructor
 ·intro hP X hX hka j
  have h1:EV m (X++List.replicate w 0):=(hk _).2 ((mJ hl ha X _ hX).2 λ i r s hr hs=>by
   rw[hka r (zM hr),VE,Rat.add_zero])
  by_cases e:j<n
  ·have h2:=h.full hP (by omega) h1 (λ j hj=>by
    rw[List.getD_eq_getElem?_getD,List.getElem?_append_right (by omega),List.getElem?_replicate];split<;>rfl) j
   rw[List.getD_eq_getElem?_getD,List.getElem?_append_left (by omega)]at h2;rw[List.getD_eq_getElem?_getD];exact h2
  ·rw[List.getD_eq_getElem?_getD,List.getElem?_eq_none (by omega)];rfl
 ·intro fr
  have h1:=h.le;rcases Nat.lt_or_ge P.length n with hP|hP
  ·exfalso
   obtain ⟨X,hX,hX1,Vb,j,hj⟩:=h.less hP (by omega);have h2:=(hk _).1 hX1;rw[<-List.take_append_drop n X]at h2;have bm:(X.take n).length=n:=by simp;omega
   have h3:=(mJ hl ha _ _ bm).1 h2;have hz : ∀ q,(X.drop n).getD q 0=0:=λ q=>by
    have:=Vb (n+q) (by omega)
    rw[List.getD_eq_getElem?_getD]at this;rw[List.getD_eq_getElem?_getD,List.getElem?_drop];exact this
   have h4:=fr (X.take n) bm (λ r hr=>by
    obtain ⟨i,hi⟩:=List.getElem?_of_mem hr;obtain ⟨s,hs⟩ : ∃ s,b[i]? = some s:=⟨_,zE (by have:=(zS hi).1;omega)⟩;have:=h3 i r s hi hs
    rw[AfL hz,Rat.add_zero]at this;exact this) j
   by_cases e:j<n
   ·rw[List.getD_eq_getElem?_getD,List.getElem?_take_of_lt e,<-List.getD_eq_getElem?_getD]at h4
    exact hj h4
   ·exact hj (Vb j (by omega))
  ·omega
def fE (w c:Nat):List Rat:=(List.range w).map λ q=>if q=c then -1 else 0
theorem uP {r:List Rat} {w c:Nat} (hr:r.length=w) (hc:c<w):A0 r (fE w c) = - r.getD c 0:=by
 rw[Z3 r _ w (by omega),pQ w hc λ j hj hn=>by rw[fE,eJ,if_pos hj,if_neg hn,Rat.mul_zero],fE,eJ,if_pos hc,if_pos rfl];grind
theorem Aei {m a b:List (List Rat)} {w n c:Nat} {y:List Rat} (hk : ∀ X,EV m X↔EV (CO a b) X) (hl:a.length=b.length) (ha : ∀ r∈a,r.length=n) (hb : ∀ r∈b,r.length=w) (hc:c<w) (hy:y.length=n) (hm : ∀ r∈m,r.length=n+w) (hs : ∀ r∈m,A0 (r.take n) y=r.getD (n+c) 0) {i:Nat} {r s:List Rat} (hr:a[i]? = some r) (hi:b[i]? = some s):A0 r y=s.getD c 0:=by
 have h1:EV m (y++fE w c):=λ q hq=>by
  have zf:=hm q hq;have e:q=q.take n++q.drop n:=(List.take_append_drop n q).symm;rw[e,O3 _ _ _ _ (by rw[List.length_take,hy];omega),hs q hq,uP (by rw[List.length_drop];omega) hc];have:(q.drop n).getD c 0=q.getD (n+c) 0:=by rw[List.getD_eq_getElem?_getD,List.getElem?_drop,<-List.getD_eq_getElem?_getD]
  rw[this];grind
 have h2:=(mJ hl ha y _ hy).1 ((hk _).1 h1) i r s hr hi;rw[uP (hb s (zM hi)) hc]at h2;grind
end Go.c9
namespace Go.c9
theorem Bt.Ox {k:Nat} {y:Rat} (h:Bt k y):Bt k y⁻¹:=by
 rw[Rat.inv_def];rcases Int.natAbs_eq y.num with e|e
 ·rw[e,Rat.divInt_ofNat]
  exact Bt.mk (by simpa using h.2) h.1
 ·rw[e,Rat.divInt_neg',Rat.divInt_ofNat]
  exact Bt.mk (by simpa using h.2) h.1
theorem Bt.uy {k l:Nat} {x y:Rat} (hx:Bt k x) (hy:Bt l y):Bt (k+l) (x/y):=by
 rw[Rat.div_def];exact hx.mul hy.Ox
theorem Bt.wy {k:Nat} {x:Rat} (h:Bt k x):Bt k (-x):=⟨by rw[Rat.neg_num,Int.natAbs_neg];exact h.1,by rw[Rat.neg_den];exact h.2⟩
theorem Bt.mr {k l:Nat} {x y:Rat} (hx:Bt k x) (hy:Bt l y):Bt (k+l+1) (x-y):=by
 rw[Rat.sub_eq_add_neg];exact hx.add hy.wy
theorem Bt.Ex {k:Nat} {x p y f l:Rat} (hx:Bt k x) (hp:Bt k p) (hy:Bt k y) (hf:Bt k f) (hl:Bt k l):Bt (5*k+1) ((x*p-y*f)/l) :=
 (((hx.mul hp).mr (hy.mul hf)).uy hl).le (by omega)
theorem tH {p f l:Rat} : ∀ {r t:List Rat} {z:Rat},z∈comb p f l r t -> ∃ x∈r,∃ y∈t,z=(x*p-y*f)/l
 | [],_,z,h=>by simp [comb]at h
 | _::_,[],z,h=>by simp [comb]at h
 | x::r,y::t,z,h=>by
  simp only[comb,List.zipWith_cons_cons,List.mem_cons]at h;rcases h with h|h
  ·exact ⟨x,List.mem_cons_self,y,List.mem_cons_self,h⟩
  ·obtain ⟨a,ha,b,hb,e⟩:=tH (r:=r) (t:=t) h
   exact ⟨a,List.mem_cons_of_mem _ ha,b,List.mem_cons_of_mem _ hb,e⟩
theorem Bs.comb {k:Nat} {r t:List Rat} {p f l:Rat} (hr:Bs k r) (ht:Bs k t) (hp:Bt k p) (hf:Bt k f) (hl:Bt k l):Bs (5*k+1) (comb p f l r t):=λ z hz=>by
 obtain ⟨x,hx,y,hy,rfl⟩:=tH hz;exact Bt.Ex (hr x hx) hp (ht y hy) hf hl
theorem jT {p f l:Rat} : ∀ {r t:List Rat},r.length=t.length -> ∀ j,(comb p f l r t).getD j 0=(r.getD j 0*p-t.getD j 0*f)/l
 | [],[],_,j=>by simp [comb,Rat.div_def,Rat.zero_mul,Rat.sub_eq_add_neg,Rat.neg_zero,Rat.add_zero]
 | x::r,y::t,_,0=>by simp [comb]
 | x::r,y::t,h,j+1=>by
  have:=jT (p:=p) (f:=f) (l:=l) (r:=r) (t:=t) (by simpa using h) j
  simp only[comb]at this;simpa [comb] using this
def TJ (s x:Rat):Rat:=s*(((s*x).den:Nat):Rat)
def C1 (r:List Rat):Rat:=r.foldl TJ 1
theorem Qm (r:List Rat) (x:Rat):C1 (r++[x])=TJ (C1 r) x:=by rw[C1,List.foldl_append];rfl
theorem Aku {s x:Rat} (h:s≠0):TJ s x≠0:=by
 intro e;rcases Rat.mul_eq_zero.1 e with e|e
 ·exact h e
 ·have:=(s*x).den_pos
  have:((s*x).den:Rat)=((0:Nat):Rat):=e
  have:=Rat.natCast_inj.1 this
  omega
theorem Akv (r:List Rat):C1 r≠0:=by
 have : ∀ (r:List Rat) (s:Rat),s≠0->r.foldl TJ s≠0:=by
  intro r;induction r with
  | nil=>intro s h;exact h
  | cons x r ih=>intro s h;exact ih _ (Aku h)
 exact this r 1 (by decide)
def whole (m:List (List Rat)):List (List Rat):=m.map λ r=>r.map (· * C1 r)
theorem Alr (m:List (List Rat)):ZL (whole m) m:=⟨by simp [whole],λ i r hr=>⟨C1 r,Akv r,by simp [whole,hr]⟩⟩
theorem Alq {m:List (List Rat)} {W:Nat} (h : ∀ r∈m,r.length=W) : ∀ r∈whole m,r.length=W:=λ r hr=>by
 obtain ⟨q,hq,rfl⟩:=List.mem_map.1 hr;simpa using h q hq
def I0:List (List Rat)->List Nat->Rat
 | r::m,p::P=>r.getD p 0*I0 m P
 | _,_=>1
theorem aX : ∀ m,I0 m []=1
 | []=>rfl
 | _::_=>rfl
theorem fR : ∀ (m:List (List Rat)) (P:List Nat) (i:Nat) (x:List Rat),P.length<=i->I0 (m.set i x) P=I0 m P
 | [],_,_,_,_=>rfl
 | _::_,[],_,_,_=>by rw[aX,aX]
 | r::m,p::P,0,x,h=>by simp at h
 | r::m,p::P,i+1,x,h=>by
  rw[List.set_cons_succ,I0,I0,fR m P i x (by simpa using h)]
theorem Rg (c:Nat) (t:List Rat) : ∀ (m:List (List Rat)) (P:List Nat),m[P.length]? = some t->I0 m (P++[c])=I0 m P*t.getD c 0
 | [],_,h=>by simp at h
 | r::m,[],h=>by
  obtain rfl:r=t:=by simpa using h
  rw[List.nil_append,I0,aX,aX,Rat.mul_one,Rat.one_mul]
 | r::m,p::P,h=>by
  rw[List.cons_append,I0,I0,Rg c t m P (by simpa using h),Rat.mul_assoc]
structure qS (n W:Nat) (u:Rat) (D:List (List Rat)->Rat):Prop where
 sw : ∀ (m:List (List Rat)) (i k:Nat) (a b:List Rat),m.length=n->(∀ r∈m,r.length=W)->m[i]? = some a->m[k]? = some b->i≠k->D ((m.set i b).set k a) = -D m
 ad : ∀ (m:List (List Rat)) (i k:Nat) (r t:List Rat) (p f l:Rat),m.length=n->(∀ r∈m,r.length=W)->m[i]? = some r->m[k]? = some t->i≠k->l≠0->D (m.set i (comb p f l r t))=D m*(p/l)
 sc : ∀ (m:List (List Rat)) (i:Nat) (r:List Rat) (s:Rat),m.length=n->(∀ r∈m,r.length=W)->m[i]? = some r->D (m.set i (r.map (· * s)))=D m*s
 tr : ∀ m:List (List Rat),m.length=n->(∀ r∈m,r.length=W)->X1 (A4 m) n->D m=I0 m (List.range n)*u
def bJ (b:Bool):Rat:=bif b then -1 else 1
theorem Aky (b:Bool):bJ (!b) = -bJ b:=by cases b<;>decide
theorem Qt : ∀ n:Nat,(1:Rat)^n=1
 | 0=>Rat.pow_zero 1
 | n+1=>by rw[Rat.pow_succ,Qt n,Rat.mul_one]
theorem Rn {l:Rat} (h:l≠0) : ∀ n:Nat,l^n≠0
 | 0=>by rw[Rat.pow_zero];decide
 | n+1=>by
  rw[Rat.pow_succ];intro e;rcases Rat.mul_eq_zero.1 e with e|e
  ·exact Rn h n e
  ·exact h e
theorem Ajm {a b c:Rat} (h:c≠0) (e:a*c=b*c):a=b:=by
 have h1:=Rat.mul_inv_cancel c h;have:a*c*c⁻¹=b*c*c⁻¹:=by rw[e]
 rwa [Rat.mul_assoc,Rat.mul_assoc,h1,Rat.mul_one,Rat.mul_one]at this
structure G2 (m0:List (List Rat)) (K W da:Nat) (m:List (List Rat)) (P:List Nat) (c:Nat) (odd:Bool) (l:Rat):Prop where
 z9:EE m W c P
 len:m.length=m0.length
 cc:c<=da
 l0:l≠0
 kt : ∀ X,EV m X↔EV m0 X
 ms:Ms (6^P.length*K) m
 bl:Bt (6^P.length*K) l
 dt : ∀ (u:Rat) (D:List (List Rat)->Rat),qS m0.length W u D->D m*l=bJ odd*D m0*I0 m P*l^(m0.length-P.length)
theorem G2.start {m0:List (List Rat)} {K W da:Nat} (h : ∀ r∈m0,r.length=W) (hb:Ms K m0):G2 m0 K W da m0 [] 0 false 1 :=
 ⟨EE.start h,rfl,Nat.zero_le _,by decide,λ_=>Iff.rfl,by simpa using hb,Bt.one _,λ u D _=>by rw[aX,Qt,Rat.mul_one,Rat.mul_one,Rat.mul_one];exact (Rat.one_mul _).symm⟩
section
variable {m0 m:List (List Rat)} {K W da c:Nat} {P:List Nat} {odd:Bool} {l:Rat}
theorem G2.skip (h:G2 m0 K W da m P c odd l) (hc:c<da) (hz : ∀ (i:Nat) (r:List Rat),P.length<=i->m[i]? = some r->r.getD c 0=0):G2 m0 K W da m P (c+1) odd l :=
 ⟨h.z9.skip hz,h.len,hc,h.l0,h.kt,h.ms,h.bl,h.dt⟩
theorem G2.swap {i k:Nat} {a b:List Rat} (h:G2 m0 K W da m P c odd l) (hi:m[i]? = some a) (hk:m[k]? = some b) (h1:P.length<=i) (h2:P.length<=k) (hn:i≠k):G2 m0 K W da ((m.set i b).set k a) P c (!odd) l :=
 ⟨h.z9.swap hi hk h1 h2,by simpa using h.len,h.cc,h.l0,λ X=>(AiP hi hk X).trans (h.kt X),λ r hr=>by
  rcases TF hr with rfl|⟨j,_,hj⟩
  ·exact h.ms.at hi
  ·rcases TF (zM hj) with rfl|⟨q,_,hq⟩
   ·exact h.ms.at hk
   ·exact h.ms.at hq,h.bl,λ u D hD=>by
  rw[hD.sw m i k a b h.len h.z9.lr hi hk hn,Aky,fR _ _ _ _ h2,fR _ _ _ _ h1,Rat.neg_mul,h.dt u D hD,Rat.neg_mul,Rat.neg_mul,Rat.neg_mul]⟩
structure TZ (m0:List (List Rat)) (K W da:Nat) (P:List Nat) (c:Nat) (odd:Bool) (l:Rat) (t:List Rat) (m:List (List Rat)) (i:Nat):Prop where
 z9:EE m W c P
 len:m.length=m0.length
 cc:c<da
 l0:l≠0
 kt : ∀ X,EV m X↔EV m0 X
 ht:m[P.length]? = some t
 nt:t.getD c 0≠0
 lo : ∀ q r,q<i->m[q]? = some r->Bs (5*(6^P.length*K)+1) r
 hi : ∀ q r,i<=q->m[q]? = some r->Bs (6^P.length*K) r
 bt:Bs (6^P.length*K) t
 bl:Bt (6^P.length*K) l
 z : ∀ q r,P.length<q->q<i->m[q]? = some r->r.getD c 0=0
 dt : ∀ (u:Rat) (D:List (List Rat)->Rat),qS m0.length W u D->D m*l*l^(i-P.length-1)=bJ odd*D m0*I0 m P*l^(m0.length-P.length)*t.getD c 0^(i-P.length-1)
theorem G2.swp {t:List Rat} (h:G2 m0 K W da m P c odd l) (hc:c<da) (ht:m[P.length]? = some t) (hn:t.getD c 0≠0):TZ m0 K W da P c odd l t m (P.length+1) :=
 ⟨h.z9,h.len,hc,h.l0,h.kt,ht,hn,λ q r _ hr=>(h.ms.at hr).le (by omega),λ q r _ hr=>h.ms.at hr,h.ms.at ht,h.bl,λ q r h1 h2 _=>absurd h1 (by omega),λ u D hD=>by
  rw[show P.length+1-P.length-1=0 by omega,Rat.pow_zero,Rat.pow_zero,Rat.mul_one,Rat.mul_one];exact h.dt u D hD⟩
theorem TZ.step {t r:List Rat} {i:Nat} (h:TZ m0 K W da P c odd l t m i) (hi:P.length<i) (hr:m[i]? = some r):TZ m0 K W da P c odd l t (m.set i (comb (t.getD c 0) (r.getD c 0) l r t)) (i+1):=by
 have w9:=(zS hr).1;have hl:r.length=t.length:=by rw[h.z9.lr r (zM hr),h.z9.lr t (zM h.ht)]
 have hg : ∀ j,(comb (t.getD c 0) (r.getD c 0) l r t).getD j 0=(r.getD j 0*t.getD c 0-t.getD j 0*r.getD c 0)/l:=jT hl;have ff : ∀ (q:Nat) (x:List Rat),(m.set i (comb (t.getD c 0) (r.getD c 0) l r t))[q]? = some x->(q=i/\x=comb (t.getD c 0) (r.getD c 0) l r t)\/(q≠i/\m[q]? = some x):=λ q x hx=>by
  rw[List.getElem?_set]at hx;by_cases e:i=q
  ·rw[if_pos e,if_pos w9]at hx
   exact Or.inl ⟨e.symm,(Option.some.inj hx).symm⟩
  ·rw[if_neg e]at hx
   exact Or.inr ⟨Ne.symm e,hx⟩
 have Fq:=h.hi i r (Nat.le_refl i) hr;have htc:Bt (6^P.length*K) (t.getD c 0):=by
  have:Ms (6^P.length*K) [t]:=λ x hx=>by obtain rfl:=List.mem_singleton.1 hx;exact h.bt
  exact this.getD 0 c
 have xv:Bt (6^P.length*K) (r.getD c 0):=by
  have:Ms (6^P.length*K) [r]:=λ x hx=>by obtain rfl:=List.mem_singleton.1 hx;exact Fq
  exact this.getD 0 c
 have dv : ∀ j,j<=c->(comb (t.getD c 0) (r.getD c 0) l r t).getD j 0=0:=λ j hj=>by
  rw[hg];by_cases e:j=c
  ·subst e;rw[Rat.div_def];grind
  ·rw[h.z9.zr i r (by omega) hr j (by omega),h.z9.zr P.length t (Nat.le_refl _) h.ht j (by omega),Rat.div_def];grind
 refine ⟨⟨λ x hx => ?_,by simpa using h.z9.pl,h.z9.inc,h.z9.pb,λ q p x hp hx => ?_,λ q x hq hx j hj => ?_⟩,by simpa using h.len,h.cc,h.l0,λ X=>(AiQ hr h.ht (by omega) hl h.nt h.l0 X).trans (h.kt X),?_,h.nt,λ q x hq hx => ?_,λ q x hq hx => ?_,h.bt,h.bl,λ q x h1 h2 hx => ?_,λ u D hD => ?_⟩
 ·rcases TF hx with rfl|⟨j,_,hj⟩
  ·rw[tG hl];exact h.z9.lr r (zM hr)
  ·exact h.z9.lr x (zM hj)
 ·have xu:=(zS hp).1
  rcases ff q x hx with ⟨rfl,_⟩|⟨_,hx⟩
  ·omega
  ·exact h.z9.nz q p x hp hx
 ·rcases ff q x hx with ⟨rfl,rfl⟩|⟨_,hx⟩
  ·exact dv j (by omega)
  ·exact h.z9.zr q x hq hx j hj
 ·rw[List.getElem?_set,if_neg (by omega)];exact h.ht
 ·rcases ff q x hx with ⟨rfl,rfl⟩|⟨m5,hx⟩
  ·exact Fq.comb h.bt htc xv h.bl
  ·exact h.lo q x (by omega) hx
 ·rcases ff q x hx with ⟨rfl,rfl⟩|⟨m5,hx⟩
  ·omega
  ·exact h.hi q x (by omega) hx
 ·rcases ff q x hx with ⟨rfl,rfl⟩|⟨m5,hx⟩
  ·exact dv c (Nat.le_refl c)
  ·exact h.z q x h1 (by omega) hx
 ·have hd:=h.dt u D hD
  have Fz:=Rat.div_mul_cancel h.l0 (a:=t.getD c 0);rw[hD.ad m i P.length r t _ _ l h.len h.z9.lr hr h.ht (by omega) h.l0,fR _ _ _ _ (by omega),show i+1-P.length-1=(i-P.length-1)+1 by omega,Rat.pow_succ,Rat.pow_succ];rw[show D m*(t.getD c 0/l)*l*(l^(i-P.length-1)*l)=D m*l*l^(i-P.length-1)*(t.getD c 0/l*l) by grind,hd,Fz,Rat.mul_assoc]
theorem Rl (hK:1<=K) (p:Nat):5*(6^p*K)+1<=6^(p+1)*K:=by
 have h1:1<=6^p*K:=Nat.mul_pos (Nat.pow_pos (by omega)) hK;have e:6^(p+1)*K=6*(6^p*K):=by rw[Nat.pow_succ,Nat.mul_comm (6^p) 6,Nat.mul_assoc]
 omega
theorem nO {p n B:Nat} (h:6^n*K<=B) (hp:p<=n):6^p*K<=B :=
 Nat.le_trans (Nat.mul_le_mul_right K (Nat.pow_le_pow_right (by omega) hp)) h
theorem TZ.done {t:List Rat} {i:Nat} (hK:1<=K) (h:TZ m0 K W da P c odd l t m i) (hi:i=m.length):G2 m0 K W da m (P++[c]) (c+1) odd (t.getD c 0):=by
 have e:(P++[c]).length=P.length+1:=by simp
 have h6:=Rl hK P.length;refine ⟨h.z9.Hx h.ht h.nt λ q r hq hr=>h.z q r hq (hi ▸ (zS hr).1) hr,h.len,h.cc,h.nt,h.kt,?_,?_,λ u D hD => ?_⟩
 ·rw[e]
  intro r hr;obtain ⟨q,hq⟩:=List.getElem?_of_mem hr;exact (h.lo q r (hi ▸ (zS hq).1) hq).le h6
 ·rw[e]
  have:Ms (6^P.length*K) [t]:=λ x hx=>by obtain rfl:=List.mem_singleton.1 hx;exact h.bt
  exact (this.getD 0 c).le (by omega)
 ·have hd:=h.dt u D hD
  have uf:=(zS h.ht).1;have hlen:=h.len;rw[Rg c t m P h.ht,e];rw[hi,hlen,show m0.length-P.length=(m0.length-P.length-1)+1 by omega,Rat.pow_succ,Nat.add_sub_cancel]at hd;rw[show m0.length-(P.length+1)=m0.length-P.length-1 by omega];have hp:=Rn h.l0 (m0.length-P.length-1);generalize l^(m0.length-P.length-1)=x at *;generalize t.getD c 0=p at *;generalize p^(m0.length-P.length-1)=y at *;have h0:=h.l0;have h1:D m=bJ odd*D m0*I0 m P*y:=Ajm (c:=l*x) (λ e=>by
   rcases Rat.mul_eq_zero.1 e with e|e
   ·exact h0 e
   ·exact hp e) (by grind)
  rw[h1];grind
end
def EW (c:Nat) (l:Rat):List (List Rat)->Nat->List Rat
 | [],_=>[]
 | r::m,i=>(r.getD c 0*l-A0 (r.drop (i+1)) (EW c l m (i+1)))/r.getD i 0::EW c l m (i+1)
theorem T4 (c:Nat) (l:Rat) : ∀ (m:List (List Rat)) (i:Nat),(EW c l m i).length=m.length
 | [],_=>rfl
 | r::m,i=>by rw[EW,List.length_cons,T4 c l m (i+1),List.length_cons]
theorem AfP (r:List Rat) (i:Nat) (h:i<r.length):r.drop i=r.getD i 0::r.drop (i+1):=by
 rw[List.drop_eq_getElem_cons h,List.getD_eq_getElem?_getD,zE h];rfl
theorem sC (c:Nat) (l:Rat) : ∀ (m:List (List Rat)) (i k:Nat) (r:List Rat),m[k]? = some r->i+k<r.length->r.getD (i+k) 0≠0->A0 (r.drop (i+k)) ((EW c l m i).drop k)=r.getD c 0*l
 | q::m,i,0,r,h,hl,h0=>by
  obtain rfl:q=r:=by simpa using h
  rw[Nat.add_zero]at hl h0 ⊢;rw[AfP q i hl,EW,List.drop_zero,A0];have:=Rat.div_mul_cancel h0 (a:=q.getD c 0*l-A0 (q.drop (i+1)) (EW c l m (i+1)))
  grind
 | q::m,i,k+1,r,h,hl,h0=>by
  rw[EW,List.drop_succ_cons,show i+(k+1)=i+1+k by omega];exact sC c l m (i+1) k r (by simpa using h) (by omega) (by rw[show i+1+k=i+(k+1) by omega];exact h0)
 | [],_,_,_,h,_,_=>by simp at h
theorem uL : ∀ (i:Nat) (r x:List Rat),(∀ j,j<i->r.getD j 0=0)->A0 r x=A0 (r.drop i) (x.drop i)
 | 0,_,_,_=>rfl
 | i+1,[],x,_=>by simp [A0]
 | i+1,r::rs,[],_=>by rw[VD,List.drop_nil,VD]
 | i+1,r::rs,x::xs,h=>by
  have h0:r=0:=by simpa using h 0 (by omega)
  rw[A0,h0,Rat.zero_mul,Rat.zero_add,List.drop_succ_cons,List.drop_succ_cons];exact uL i rs xs λ j hj=>by simpa using h (j+1) (by omega)
theorem AdK {c n:Nat} {l:Rat} {m:List (List Rat)} (hn : ∀ r∈m,n<=r.length) (hm:m.length=n) (ht:X1 (A4 m) n) (r:List Rat) (hr:r∈m):A0 r (EW c l m 0)=r.getD c 0*l:=by
 obtain ⟨k,hk⟩:=List.getElem?_of_mem hr;have ox:=(zS hk).1;have h1:=ht k (by omega);have h2:=sC c l m 0 k r hk (by have:=hn r hr;omega) (by rw[Nat.zero_add,<-J5 hk];exact h1.1);rw[uL k r _ λ j hj=>by rw[<-J5 hk];exact h1.2 j hj,<-h2,Nat.zero_add]
def FG (S n:Nat):Nat->Nat
 | 0=>0
 | t+1=>3*S+n*(S+FG S n t+1)
theorem jL (S n:Nat) : ∀ t,FG S n t<=FG S n (t+1)
 | 0=>Nat.zero_le _
 | t+1=>by
  rw[FG,FG];have:=Nat.mul_le_mul_left n (show S+FG S n t+1<=S+FG S n (t+1)+1 by have:=jL S n t;omega)
  omega
theorem sL (S n:Nat) {t u:Nat} (h:t<=u):FG S n t<=FG S n u:=by
 obtain ⟨d,rfl⟩:=Nat.exists_eq_add_of_le h;induction d with
 | zero=>exact Nat.le_refl _
 | succ d ih=>exact Nat.le_trans (ih (by omega)) (jL S n (t+d))
theorem uO {k l:Nat} {a b:List Rat} (ha:Bs k a) (hb:Bs l b) {n:Nat} (hn:b.length<=n):Bt (n*(k+l+1)) (A0 a b):=by
 rw[IW];exact (hb.dot ha).le (Nat.le_trans (Nat.mul_le_mul_right _ hn) (Nat.le_of_eq (by rw[Nat.add_comm l k])))
theorem cY {S n c:Nat} {l:Rat} (hl:Bt S l) : ∀ (m:List (List Rat)) (i:Nat),m.length<=n->Ms S m->Bs (FG S n m.length) (EW c l m i)
 | [],_,_,_=>λ x hx=>by cases hx
 | r::m,i,hn,hm=>by
  have ih:=cY (c:=c) (n:=n) hl m (i+1) (by rw[List.length_cons]at hn;omega) (λ q hq=>hm q (List.mem_cons_of_mem _ hq));have hr:Bs S r:=hm r List.mem_cons_self;have hg : ∀ j,Bt S (r.getD j 0):=λ j=>by
   have:Ms S [r]:=λ x hx=>by obtain rfl:=List.mem_singleton.1 hx;exact hr
   exact this.getD 0 j
  have h1:=uO (k:=S) (a:=r.drop (i+1)) (λ x hx=>hr x (List.mem_of_mem_drop hx)) ih (n:=n-1) (by rw[T4];rw[List.length_cons]at hn;omega);have h2:=(((hg c).mul hl).mr h1).uy (hg i);rw[List.length_cons];intro x hx;rw[EW]at hx;rcases List.mem_cons.1 hx with rfl|hx
  ·refine h2.le ?_
   rw[FG];obtain ⟨k,rfl⟩ : ∃ k,n=k+1:=⟨n-1,by rw[List.length_cons]at hn;omega⟩;have e:=Nat.succ_mul k (S+FG S (k+1) m.length+1);rw[Nat.succ_eq_add_one]at e;rw[Nat.add_sub_cancel];omega
  ·exact (ih x hx).le (jL S n m.length)
end Go.c9

namespace Go.c9
open F
attribute [local irreducible] AA AF AP AD CI AY AW A6 A5 B2 AM BQ B8 C8 BM A1 BR B9 AB A7 AJ pw BO BH CH CK CS CP CD BT CJ
variable {L:Lib}
set_option maxHeartbeats 16000000
def cw (n:Nat) (v:List Rat):List (Option Rat):=List.replicate (n-v.length) none++v.map some
theorem tN {n:Nat} {v:List Rat} (h:v.length<=n):(cw n v).length=n:=by simp [cw];omega
theorem AeH (n:Nat):cw n []=List.replicate n none:=by simp [cw]
theorem AeF {n s:Nat} {v:List Rat} {x:Rat} (h:v[s]? = some x):(cw n v)[n-v.length+s]? = some (some x):=by
 rw[cw,List.getElem?_append_right (by simp),List.length_replicate,Nat.add_sub_cancel_left,List.getElem?_map,h];rfl
theorem AeI {n:Nat} {v:List Rat} {x:Rat} (h:v.length<n):(cw n v).set (n-(v.length+1)) (some x)=cw n (x::v):=by
 obtain ⟨k,hk⟩ : ∃ k,n-v.length=k+1:=⟨n-v.length-1,by omega⟩;have e:n-(v.length+1)=k:=by omega
 simp only[cw,hk,List.length_cons,e];rw[List.replicate_succ',List.append_assoc,List.set_append_right _ _ (by simp),List.length_replicate,Nat.sub_self];rfl
theorem AeG {n:Nat} {v:List Rat} (h:v.length=n):(cw n v).map eO=v.map eQ:=by
 simp [cw,h,Function.comp_def]
theorem VK {l:List Rat} {i:Nat} (h:i<l.length):l[i]? = some (l.getD i 0):=by
 rw[List.getD_eq_getElem?_getD,zE h];rfl
theorem Agp (N:w7 L) (q q':Bool) (m:List (List Rat)) (n W c S:Nat) (l:Rat) (hm:m.length=n) (hW : ∀ r∈m,r.length=W) (hn:1<=n/\n<=1000) (hnW:n<=W) (hc:c<W) (Dx:W<=100000)
  (hd : ∀ (k:Nat) (r:List Rat),m[k]? = some r->r.getD k 0≠0) (lk:Ms S m) (hl:Bt S l) (hB:FG S n n<2199023255552):Ev L 234 [.sl q (CN q' m),.int .i64 c,.agg (eQ l)] (.sl false ((EW c l m 0).map eQ)):=by
 have hS:S<2199023255552:=by
  have:=sL S n (show 1<=n by omega)
  rw[FG]at this;omega
 refine Ev.x N.PI rfl rfl ?_;(repeat' ((first|apply AR|apply AE)<;>conv=>whnf))
 refine EJ (enc:=eO) none n rfl (by omega) (by omega) ?_;(conv=>whnf)
 (repeat' ((first|(apply B7;omega)|apply AR)<;>conv=>whnf))
 rw[hm];refine BP (λ k=>k) (λ(k:Nat)=>k<=n) (λ k=>[(8,.int .i64 ((k:Int)-1))]) (λ k=>[(13,13,.rw 3 ((cw n (EW c l (m.drop k) k)).map eO))]) [] [] n (by first|exact (by (conv=>whnf);exact ⟨rfl,rfl,rfl⟩)|(rw[List.drop_of_length_le (by omega),EW,AeH];exact (by (conv=>whnf);exact ⟨rfl,rfl,rfl⟩))) (by omega) ?_;intro k p1 kh;rcases k with _|k
 ·clear kh
  rw[List.drop_zero,AeG (by rw[T4];exact hm)];(repeat' ((first|(apply AG<;>intro hc<;>try (exfalso;omega))|apply AE)<;>conv=>whnf))
  refine C9 (enc:=eQ) (λ_=>rfl) rfl (by rw[T4];omega) ?_;(conv=>whnf)
  exact AX rfl (by simp only[A3,true_and];exact HO _)
 ·obtain ⟨r,hr⟩ : ∃ r,m[k]? = some r:=⟨_,zE (by omega)⟩
  have ig:m[(k:Int).toNat]? = some r:=hr;have ax:=hW r (zM hr);have e1:((k+1:Nat):Int)-1=k:=by omega
  have hv:EW c l (m.drop k) k=(r.getD c 0*l-A0 (r.drop (k+1)) (EW c l (m.drop (k+1)) (k+1)))/r.getD k 0::EW c l (m.drop (k+1)) (k+1):=by
   obtain ⟨h1,h2⟩:=zS hr;rw[List.drop_eq_getElem_cons h1,EW,h2]
  have iw:(EW c l (m.drop (k+1)) (k+1)).length=n-(k+1):=by rw[T4,List.length_drop,hm]
  have nu:Bs (FG S n (n-(k+1))) (EW c l (m.drop (k+1)) (k+1)):=by
   have:=cY (c:=c) (n:=n) hl (m.drop (k+1)) (k+1) (by rw[List.length_drop];omega) (λ r hr=>lk r (List.mem_of_mem_drop hr))
   rwa [List.length_drop,hm]at this
  have Uk:FG S n (n-(k+1)+1)<=FG S n n:=sL S n (by omega);rw[FG]at Uk;have jd:=lk.at hr;have xv:r[(c:Int).toNat]? = some (r.getD c 0):=VK (by omega);have Eh:r[(k:Int).toNat]? = some (r.getD k 0):=VK (by omega);have Nl:=hd k r hr;have bc:=jd.at xv;have bk:=jd.at Eh;have hM:=GD N.toa6 bc hl hS hS;generalize nq:r.getD c 0=rc at *;generalize Avw:r.getD k 0=rk at *;generalize EW c l (m.drop (k+1)) (k+1)=v at *;generalize FG S n (n-(k+1))=X at *;rw[e1];(repeat' ((first|(apply AG<;>intro hc<;>try (exfalso;omega))|(apply AU;omega)|(refine BA (by assumption) ?_ rfl ?_;omega)|apply AE|refine AC (hM) ?_)<;>conv=>whnf))
  refine FV (λ s _=>n-s) (λ(s:Nat) (acc:Rat)=>k+1+s<=n/\acc=rc*l-A0 ((r.drop (k+1)).take s) (v.take s)) (λ s _=>[(10,.int .i64 ((k+1+s:Nat):Int))]) (λ_ acc=>[(9,9,.bx (eQ acc))]) [] [] 0 (rc*l) (by (conv=>whnf);exact ⟨rfl,rfl,rfl⟩) ⟨by omega,by simp only[List.take_zero,A0];grind⟩ ?_;intro s acc ⟨p2,p3⟩ sh;have jk:Bt (2*S+(n-(k+1))*(S+X+1)+1) acc:=by
   rw[p3];have h1:=uO (k:=S) (l:=X) (a:=(r.drop (k+1)).take s) (b:=v.take s) (n:=n-(k+1)) (λ x hx=>jd x (List.mem_of_mem_drop (List.mem_of_mem_take hx))) (nu.take s) (by rw[List.length_take];omega);exact ((bc.mul hl).mr h1).le (by omega)
  have hmul:=Nat.mul_le_mul_right (S+X+1) (show n-(k+1)+1<=n by omega);rw[Nat.add_mul,Nat.one_mul]at hmul;have hX:X<2199023255552:=by
   have:=Nat.le_mul_of_pos_left (S+X+1) (show 0<n by omega)
   omega
  by_cases hs:k+1+s<n
  ·obtain ⟨x,hx⟩ : ∃ x,v[s]? = some x:=⟨_,zE (by omega)⟩
   obtain ⟨y,hy⟩ : ∃ y,r[k+1+s]? = some y:=⟨_,zE (by omega)⟩;have uo:r[((k+1+s:Nat):Int).toNat]? = some y:=hy;have Em:(r.drop (k+1))[s]? = some y:=by rw[List.getElem?_drop];exact hy
   have mw:=AeF (n:=n) hx;rw[iw,show n-(n-(k+1))+s=k+1+s by omega]at mw;have n7:=tN (n:=n) (v:=v) (by omega);have si:=jd.at hy
   have bx:=nu.at hx;have dj:=GD N.toa6 si bx hS hX
   have Fl:=eB N.toy8 jk (si.mul bx) (by omega) (by
    have:=Nat.le_mul_of_pos_left (S+X+1) (show 0<n-(k+1) by omega)
    omega)
   have Ls:=WI Em hx;generalize cw n v=C at *;(repeat' ((first|(apply AG<;>intro hc<;>try (exfalso;omega))|(apply AZ;omega)|apply AR|(refine BA (by assumption) ?_ rfl ?_;omega)|apply AE)<;>conv=>whnf))
   refine XX (enc:=eO) (e:=some x) (by rw[Nat.zero_add];exact mw) rfl ?_;(conv=>whnf)
   (repeat' ((first|(apply AU;omega)|refine AC (dj) ?_|refine AC (Fl) ?_)<;>conv=>whnf))
   refine BW [] (by (conv=>whnf);exact ⟨rfl,rfl,rfl⟩) (sh (s+1) (acc-y*x) (by omega) ⟨by omega,?_⟩);rw[Ls,p3];grind
  ·obtain rfl:s=n-(k+1):=by omega
   clear sh;have Ls:acc=rc*l-A0 (r.drop (k+1)) v:=by
    rw[p3,IW,VC iw,IW]
   have hD:=dY N.toa6 jk bk (by omega) hS Nl;have jb:=AeI (n:=n) (v:=v) (x:=acc/rk) (by omega);rw[iw,show n-(n-(k+1)+1)=k by omega]at jb;have n7:=tN (n:=n) (v:=v) (by omega);rw[<-Ls]at hv;rw[<-hv]at jb;generalize cw n v=C at *;(repeat' ((first|(apply AG<;>intro hc<;>try (exfalso;omega))|(apply AZ;omega)|apply AR|(refine BA (by assumption) ?_ rfl ?_;omega)|apply AE|refine AC (hD) ?_)<;>conv=>whnf))
   refine FF (enc:=eO) (some (acc/rk)) rfl (λ e=>by cases e<;>rfl) (by omega) ?_;(conv=>whnf)
   rw[jb];(repeat' ((first|(apply B7;omega)|fail)<;>conv=>whnf))
   exact BG [] (kh k (by omega) (by omega))
end Go.c9

namespace Go.c9
variable {L:Lib}
def ON:BJ->Bool
 | .ret=>false
 | .dr c _ _=>ON c
 | .scope c=>ON c
 | .seq a b=>ON a&&ON b
 | .cond _ a b=>ON a&&ON b
 | .block _ c=>ON c
 | .loop c=>ON c
 | _=>true
def OO:It->Bool
 | .code c=>ON c
 | .lp c=>ON c
 | _=>true
theorem aB {id:Nat} {kk:List It} : ∀ {l l':List It},DY id l=some l'->DY id (l++kk)=some (l'++kk)
 | [],_,h=>by cases h
 | .g7 i::l,l',h=>by
  simp only[List.cons_append,DY]at h ⊢;split at h
  ·rename_i e;rw[if_pos e];cases h;rfl
  ·rename_i e;rw[if_neg e];exact aB h
 | .code c::l,l',h=>by
  simp only[List.cons_append,DY]at h ⊢;exact aB h
 | .kv a b::l,l',h=>by
  simp only[List.cons_append,DY]at h ⊢;exact aB h
 | .lp c::l,l',h=>by
  simp only[List.cons_append,DY]at h ⊢;exact aB h
theorem aA {id:Nat} {p:It->Bool} : ∀ {l l':List It},DY id l=some l'->l.all p=true->l'.all p=true
 | [],_,h,_=>by cases h
 | .g7 i::l,l',h,ha=>by
  simp only[DY]at h;simp only[List.all_cons,Bool.and_eq_true]at ha;split at h
  ·cases h;exact ha.2
  ·exact aA h ha.2
 | .code c::l,l',h,ha=>by
  simp only[DY]at h;simp only[List.all_cons,Bool.and_eq_true]at ha;exact aA h ha.2
 | .kv a b::l,l',h,ha=>by
  simp only[DY]at h;simp only[List.all_cons,Bool.and_eq_true]at ha;exact aA h ha.2
 | .lp c::l,l',h,ha=>by
  simp only[DY]at h;simp only[List.all_cons,Bool.and_eq_true]at ha;exact aA h ha.2
theorem JX {C:Cl} {kk:List It} {m:Nat} {A9 BV:St} (hk:run C m kk A9=some BV) : ∀ (n:Nat) (l:List It) (st:St),l.all OO=true->run C n l st=some A9->run C (n+m) (l++kk) st=some BV
 | 0,_,_,_,h=>by cases h
 | n+1,[],st,_,h=>by
  simp only[run,Option.some.injEq]at h;subst h;exact K6 (C:=C) (C':=C) ⟨λ_ _ _ h=>h,λ_ _ _ _ h=>h,rfl⟩ (by omega) hk
 | n+1,.g7 i::l,st,ha,h=>by
  simp only[List.all_cons,Bool.and_eq_true]at ha;rw[show n+1+m=n+m+1 by omega];simp only[List.cons_append,run]at h ⊢;exact JX hk n l st ha.2 h
 | n+1,.kv ts ss::l,st,ha,h=>by
  simp only[List.all_cons,Bool.and_eq_true]at ha;rw[show n+1+m=n+m+1 by omega];simp only[List.cons_append,run]at h ⊢;exact JX hk n l _ ha.2 h
 | n+1,.lp c::l,st,ha,h=>by
  rw[show n+1+m=n+m+1 by omega];simp only[List.cons_append,run]at h ⊢;exact JX hk n (.code c :: .lp c::l) st (by simp only[List.all_cons,OO,Bool.and_eq_true]at ha ⊢;exact ⟨ha.1,ha.1,ha.2⟩) h
 | n+1,.code c::l,st,ha,h=>by
  simp only[List.all_cons,OO,Bool.and_eq_true]at ha;obtain ⟨h1,h2⟩:=ha;rw[show n+1+m=n+m+1 by omega];cases c with
  | ret=>cases h1
  | skip =>
   simp only[List.cons_append,run]at h ⊢;exact JX hk n l st h2 h
  | ops o d =>
   simp only[List.cons_append,run]at h ⊢;cases hs:DD C o st with
   | none=>rw[hs]at h;cases h
   | some s'=>rw[hs]at h;exact JX hk n l s' h2 h
  | dr c ts ss =>
   simp only[List.cons_append,run]at h ⊢;exact JX hk n (.code c :: .kv ts ss::l) st (by simp only[List.all_cons,OO,Bool.and_eq_true];exact ⟨h1,trivial,h2⟩) h
  | scope c =>
   simp only[List.cons_append,run]at h ⊢;exact JX hk n (.code c::l) st (by simp only[List.all_cons,OO,Bool.and_eq_true];exact ⟨h1,h2⟩) h
  | seq a b =>
   simp only[ON,Bool.and_eq_true]at h1;simp only[List.cons_append,run]at h ⊢;exact JX hk n (.code a :: .code b::l) st (by simp only[List.all_cons,OO,Bool.and_eq_true];exact ⟨h1.1,h1.2,h2⟩) h
  | cond x a b =>
   simp only[ON,Bool.and_eq_true]at h1;simp only[List.cons_append,run]at h ⊢;split at h
   ·exact JX hk n (.code a::l) st (by simp only[List.all_cons,OO,Bool.and_eq_true];exact ⟨h1.1,h2⟩) h
   ·exact JX hk n (.code b::l) st (by simp only[List.all_cons,OO,Bool.and_eq_true];exact ⟨h1.2,h2⟩) h
   ·cases h
  | block i c =>
   simp only[List.cons_append,run]at h ⊢;exact JX hk n (.code c :: .g7 i::l) st (by simp only[List.all_cons,OO,Bool.and_eq_true];exact ⟨h1,trivial,h2⟩) h
  | loop c =>
   simp only[List.cons_append,run]at h ⊢;exact JX hk n (.code c :: .lp c::l) st (by simp only[List.all_cons,OO,Bool.and_eq_true];exact ⟨h1,h1,h2⟩) h
  | exit i =>
   simp only[List.cons_append,run]at h ⊢;cases he:DY i l with
   | none=>rw[he]at h;cases h
   | some l' =>
    rw[he]at h;rw[aB he];exact JX hk n l' st (aA he h2) h
theorem XP {l kk:List It} {tm:Tm} {M:Mem} {Q:Tm->Mem->Prop} (hn:l.all OO=true) (h:AA L l tm M (λ tm M=>AA L kk tm M Q)):AA L (l++kk) tm M Q:=by
 intro σ st hr;obtain ⟨n,c,A9,h1,σ1,Xu,M1,ak,h2⟩:=h σ st hr;obtain ⟨m,c2,BV,h3,h4⟩:=h2 σ1 A9 ak;obtain ⟨c3,g1,g2⟩ : ∃ c3,(C4 L c).le (C4 L c3)/\(C4 L c2).le (C4 L c3):=⟨max c c2,FH (Nat.le_max_left _ _),FH (Nat.le_max_right _ _)⟩;exact ⟨n+m,c3,BV,JX (K6 g2 (Nat.le_refl _) h3) n l st hn (K6 g1 (Nat.le_refl _) h1),h4⟩
structure cD (p:Prop):Prop where
 go ::
 out:p
theorem Xx {α β γ:Type} {l kk:List It} {tm:Tm} {M:Mem} {Q:Tm->Mem->Prop} (P:α->β->γ->Prop) (vs:α->β->γ->Tm) (Ms:α->β->γ->Mem) (ts:List Nat) (hn:l.all OO=true)
  (hr : ∀ a b c,P a b c->AA L kk (vs a b c++ae ts tm) (Ms a b c++M) Q)
  (h:(∀ a b c,P a b c->AA L kk (vs a b c++ae ts tm) (Ms a b c++M) Q)->AA L l tm M (λ tm M=>cD (AA L kk tm M Q))):AA L (l++kk) tm M Q:=by
 refine XP hn ?_;intro σ st hs;obtain ⟨n,c,A9,h1,σ1,Xu,M1,ak,h2⟩:=h hr σ st hs;exact ⟨n,c,A9,h1,σ1,Xu,M1,ak,h2.out⟩
end Go.c9

namespace Go.c9
open F
attribute [local irreducible] AA AF AP AD CI AY AW A6 A5 B2 AM BQ B8 C8 BM A1 BR B9 AB A7 AJ pw BO BH CH CK CS CP CD BT CJ
variable {L:Lib}
set_option maxHeartbeats 16000000
theorem kC:dg 1=[1]:=by rw[JR (by decide)];simp [E4]
theorem AgB (N:a6 L) {s:Rat} {a l d:Nat} (q:Bool) (hs:Bt a s) (hd:d<=2^l) (ha:a<2199023255552) (hl:l<2199023255552):Ev L 99 [.agg (eQ s),.agg [.bool false,.sl false ((dg d).map AL),.sl q [[.int .u32 1]]]] (.agg (eQ (s*((d:Nat):Rat)))):=by
 have ow:Bt l ((d:Nat):Rat):=⟨by simpa using hd,by simpa using Nat.one_le_two_pow⟩;have e:=EM ((d:Nat):Rat);have h1:=(ow.sm hl).1;have h2:=(ow.sm hl).2;rw[Rat.num_natCast,Rat.den_natCast,Int.natAbs_natCast,show decide ((d:Int)<0)=false by simp,kC]at e;rw[Rat.num_natCast,Int.natAbs_natCast]at h1;rw[Rat.den_natCast,kC]at h2;have h:=lH N 68719476736 (by omega) (decide (s.num<0)) false false false false q _ _ (dg d) [1] (hs.sm ha).1 (hs.sm ha).2 h1 h2;rw[EM,e]at h;exact h
theorem Sj {N i k:Nat} (hk:k<N) : ∀ t,t∈(List.range N).set i k->t<N:=λ t ht=>by
 rcases List.mem_or_eq_of_mem_set ht with h|h
 ·exact List.mem_range.1 h
 ·omega
theorem UJ {z:Nat} {m:List (List Rat)} {i:Nat} {r:List Rat} (h:m[i]? = some r):(BK z eQ m)[i]? = some (some (z,r.map eQ)):=by
 rw[BK,List.getElem?_map,h];rfl
theorem zI {z:Nat} {m:List (List Rat)} {i j:Nat} {a b:List Rat}:((BK z eQ m).set i (some (z,b.map eQ))).set j (some (z,a.map eQ))=BK z eQ ((m.set i b).set j a):=by
 simp only[BK,List.map_set]
theorem cC {R:List (Option (Nat × List (List AV)))} {e z:Nat} {es:List (List AV)} {K:Nat->List (List AV)->Prop} (h:R[e]? = some (some (z,es))) (hk:K z es):BH R e K:=by
 unfold BH;exact ⟨z,es,h,hk⟩
theorem oL {α:Type} {l:List α} {i:Nat} {x:α} (h:l[i]? = some x):l.set i x=l:=by
 obtain ⟨h1,rfl⟩:=zS h;exact List.set_getElem_self h1
theorem Aja {a b:List Rat} {c:Nat} (hl:a.length=b.length) (h : ∀ j,j<c->a.getD j 0=0/\b.getD j 0=0):a.take c++b.drop c=b:=by
 have e:a.take c=b.take c:=by
  refine List.ext_getElem? λ j => ?_
  rw[List.getElem?_take,List.getElem?_take];by_cases hj:j<c
  ·rw[if_pos hj,if_pos hj]
   obtain ⟨h1,h2⟩:=h j hj;rw[List.getD_eq_getElem?_getD]at h1 h2;by_cases gk:j<a.length
   ·rw[zE gk,zE (by omega)]at *
    simp only[Option.getD_some]at h1 h2;rw[h1,h2]
   ·rw[List.getElem?_eq_none (by omega),List.getElem?_eq_none (by omega)]
  ·rw[if_neg hj,if_neg hj]
 rw[e,List.take_append_drop]
theorem Ai8 {a b:List Rat} {j:Nat} {x:Rat} (hl:a.length=b.length) (hx:b[j]? = some x):(a.take j++b.drop j)[j]? = some x:=by
 have h1:=(zS hx).1;have ht:(a.take j).length=j:=by rw[List.length_take];omega
 rw[List.getElem?_append_right (by omega),ht,Nat.sub_self,List.getElem?_drop];exact hx
theorem Ai9 {a b:List Rat} {j:Nat} {y:Rat} (hl:a.length=b.length) (hy:a[j]? = some y):(a.take j++b.drop j).set j y=a.take (j+1)++b.drop (j+1):=by
 have h1:=(zS hy).1;have ht:(a.take j).length=j:=by rw[List.length_take];omega
 rw[List.set_append_right _ _ (by omega),ht,Nat.sub_self,List.drop_eq_getElem_cons (by omega),List.set_cons_zero,SP hy,List.append_assoc];rfl
theorem uZ {m0 m a b:List (List Rat)} {K n w c:Nat} {P:List Nat} {odd:Bool} {l:Rat} (hE:G2 m0 K (n+w) n m P c odd l) (hs:ZL m0 (CO a b)) (hl:a.length=b.length) (ha : ∀ r∈a,r.length=n) (ag:a.length=n) (gi:n<=c\/n<=P.length):P.length=n↔NS n a:=by
 have Lu:EE m (n+w) n P:=by
  have hc:=hE.cc;rcases gi with h|h
  ·obtain rfl:c=n:=by omega
   exact hE.z9
  ·have h1:=hE.z9.pl
   have h2:=hE.len;have h3:=hs.1;simp only[CO,List.length_zipWith]at h3;exact hE.z9.wide (by omega) hc
 exact AjY Lu (λ X=>(hE.kt X).trans (hs.kt X)) hl ha
def kS:Option (List Rat)->List AV
 | none=>[.nil]
 | some r=>[.sl false (r.map eQ)]
def KE (y:Nat->List Rat) (n w:Nat):List (List Rat):=(List.range n).map λ i:Nat=>(List.range w).map λ c=>(y c).getD i 0
theorem AhB {n:Nat} {l:List (List Rat)} (h:l.length=n):(fz none (l.map some) n).map kS=eM l:=by
 rw[YL (by simpa using h),List.map_map];rfl
theorem Sz {m0 m:List (List Rat)} {K n W c:Nat} {P:List Nat} {odd:Bool} {l:Rat} (hE:G2 m0 K W n m P c odd l) (hP:P.length=n) (dk:m.length=n):X1 (A4 m) n:=by
 have hc:c=n:=by have:=hE.z9.le;have:=hE.cc;omega
 subst hc;exact hE.z9.Pg λ i hi=>by
  obtain ⟨q,hq⟩ : ∃ q,P[i]? = some q:=⟨_,zE (by omega)⟩;rw[hq,hE.z9.diag hP i q hq]
theorem AkM {m0 m a b:List (List Rat)} {K n w c:Nat} {P:List Nat} {odd:Bool} {l:Rat} (hE:G2 m0 K (n+w) n m P c odd l) (hs:ZL m0 (CO a b)) (hl:a.length=b.length) (mc : ∀ r∈a,r.length=n) (td : ∀ r∈b,r.length=w) (hP:P.length=n) (dk:m.length=n) :
  ∀ c',c'<w -> ∀ (i:Nat) (r s:List Rat),a[i]? = some r->b[i]? = some s->A0 r ((EW (n+c') l m 0).map (· / l))=s.getD c' 0:=by
 intro c' w8 i r s hr tl;have ht:=Sz hE hP dk;have hlen:=hE.z9.lr;refine Aei (λ X=>(hE.kt X).trans (hs.kt X)) hl mc td w8 (by rw[List.length_map,T4];exact dk) hlen (λ x hx => ?_) hr tl;have h1:=AdK (c:=n+c') (l:=l) (λ r hr=>by rw[hlen r hr];omega) dk ht x hx;have ql:((EW (n+c') l m 0).map (· * l⁻¹)).length=n:=by rw[List.length_map,T4];exact dk
 rw[show ((EW (n+c') l m 0).map (· / l))=(EW (n+c') l m 0).map (· * l⁻¹) from List.map_congr_left λ z _=>Rat.div_def z l,IW,<-VC ql,List.take_take,Nat.min_self,VC ql,YA,IW,h1,Rat.mul_assoc,Rat.mul_inv_cancel _ hE.l0,Rat.mul_one]
theorem AkO (N:w7 L) (q q1 q2 q3:Bool) (a0 b0:List (List Rat)) (a:List (List Rat)) (n WW k:Nat) {K:Nat} (ag:a.length=n) (mc : ∀ r∈a,r.length=WW) (hn:1<=n/\n<=52) (hW:WW<=104) (jk:Ms k a) (tn : ∀ r∈a,∀ j,Bt K (C1 (r.take j))) (Gf:k<=K) (Ki:K<=1000000000000) {kk:List It} {Q:Tm->Mem->Prop}
  (aj:AA L kk ([(5,.row 231019 0 3 0 n),(4,.row 231016 0 1 0 n)]++[(1000+43,.row 22 0 1 0 n),(1000+26,.bool false),(1000+25,.int .i64 n),(1000+24,.int .i64 n),(1000+7,.row 22 0 1 0 n),(1000+6,.int .i64 n),(1000+0,.sl q (CN q1 a0)),(1000+(0+1),.sl q2 (CN q3 b0))]) ([(231016,231016,.mx (BK 3 eQ (whole a))),(231019,231019,.rw 3 ((a.map C1).map eQ))]++[(22,22,.rw 1 (eM a))]) Q) :
  AA L (.lp OJ.l1 :: .g7 0::kk) ([(22,.int .i64 0),(21,.int .i64 n),(20,.row 22 0 1 0 n),(5,.row 231019 0 3 0 n),(4,.row 231016 0 1 0 n)]++[(1000+43,.row 22 0 1 0 n),(1000+26,.bool false),(1000+25,.int .i64 n),(1000+24,.int .i64 n),(1000+7,.row 22 0 1 0 n),(1000+6,.int .i64 n),(1000+0,.sl q (CN q1 a0)),(1000+(0+1),.sl q2 (CN q3 b0))]) ([(231016,231016,.mx (List.replicate n none)),(231019,231019,.rw 3 ((List.replicate n none).map eO))]++[(22,22,.rw 1 (eM a))]) Q:=by
 have hI:=HS N.toa6 1 (by omega);refine XP (l:=[_,_]) rfl ?_;refine BP (λ i=>n-i) (λ(i:Nat)=>i<=n) (λ i=>[(22,.int .i64 i)]) (λ i=>[(231016,231016,.mx (mz (whole a) n i)),(231019,231019,.rw 3 ((ED ((a.map C1).take i) n).map eO))]) [] [] 0 (by first|exact (by (conv=>whnf);exact ⟨rfl,rfl,rfl⟩)|(rw[<-nC (whole a),List.take_zero,<-OG];exact (by (conv=>whnf);exact ⟨rfl,rfl,rfl⟩))) (by omega) ?_;intro i p1 ih;have Wv:=nA (Q:=whole a) p1;by_cases hi:i<n
 ·obtain ⟨r,hr⟩ : ∃ r,a[i]? = some r:=⟨_,zE (by omega)⟩
  have ig:a[(i:Int).toNat]? = some r:=hr;have ax:=mc r (zM hr);have jd:=jk.at hr;have k6:=nB (Q:=whole a) (i:=i) (n:=n) (row:=r.map (· * C1 r)) (by simp [whole,hr]) hi;have Nx:(a.map C1)[i]? = some (C1 r):=by simp [hr]
  generalize mz (whole a) n i=R0 at *;have Jg : ∀ j,Bt K (C1 (r.take j)):=tn r (zM hr);have Hl:=Jg WW;rw[List.take_of_length_le (by omega)]at Hl;(repeat' ((first|(apply AG<;>intro hc<;>try (exfalso;omega))|(apply AZ;omega)|apply AR|(refine F9 ?_ (λ_=>rfl) (λ v hv => ?_);omega)|apply AE|refine AC (hI) ?_)<;>conv=>whnf))
  try cases hr.symm.trans hv
  refine FV (λ j _=>WW-j) (λ(j:Nat) (s:Rat)=>j<=WW/\s=C1 (r.take j)) (λ j _=>[(30,.int .i64 j)]) (λ_ s=>[(231008,231008,.bx (eQ s))]) [] [] 0 ((1:Int):Rat) (by (conv=>whnf);exact ⟨rfl,rfl,rfl⟩) ⟨by omega,by rw[List.take_zero];rfl⟩ ?_;intro j s ⟨p2,p3⟩ jh;by_cases hj:j<WW
  ·obtain ⟨x,hx⟩ : ∃ x,r[j]? = some x:=⟨_,zE (by omega)⟩
   have fb:r[(j:Int).toNat]? = some x:=hx;have Hm:Bt K s:=by rw[p3];exact Jg j
   have bx:=jd.at hx;have ck:=GD N.toa6 Hm bx (by omega) (by omega);have dj:=AgB N.toa6 true Hm (Hm.mul bx).2 (by omega) (by omega);have Cu:C1 (r.take (j+1))=s*(((s*x).den:Nat):Rat):=by rw[SP hx,Qm,<-p3];rfl
   (repeat' ((first|(apply AG<;>intro hc<;>try (exfalso;omega))|(apply AU;omega)|(refine BA (by assumption) ?_ rfl ?_;omega)|refine JQ rfl ?_|apply AE|refine AC (ck) ?_|refine AC (dj) ?_)<;>conv=>whnf))
   exact BW [] (by (conv=>whnf);exact ⟨rfl,rfl,rfl⟩) (jh (j+1) _ (by omega) ⟨by omega,Cu.symm⟩)
  have ej:j=WW:=by omega
  clear jh;rw[List.take_of_length_le (by omega)]at p3;subst p3;(repeat' ((first|(apply AG<;>intro hc<;>try (exfalso;omega))|apply AR|apply AE)<;>conv=>whnf))
  rw[ax];refine EJ (enc:=eO) none WW rfl (by omega) (by omega) ?_;(conv=>whnf)
  (repeat' ((first|(apply AZ;omega)|fail)<;>conv=>whnf))
  refine AZ (by simp) ?_;refine XZ (i:=i) (by omega) (by omega) ?_;(conv=>whnf)
  (repeat' (apply AR<;>conv=>whnf))
  refine BP (λ j=>WW-j) (λ(j:Nat)=>j<=WW) (λ j=>[(53,.int .i64 j)]) (λ j=>[(231016,231016,.mx (R0.set i (some (3,(ED ((r.map (· * C1 r)).take j) WW).map eO))))]) [] [] 0 (by first|exact (by (conv=>whnf);exact ⟨rfl,rfl,rfl⟩)|(rw[List.take_zero,<-OG];exact (by (conv=>whnf);exact ⟨rfl,rfl,rfl⟩))) (by omega) ?_;intro j r2 jh;have Df:((r.map (· * C1 r)).take j).length=j:=by rw[List.length_take,List.length_map];omega
  have Ja:=J9 (l:=(r.map (· * C1 r)).take j) (m:=WW) (by omega);by_cases hj:j<WW
  ·obtain ⟨x,hx⟩ : ∃ x,r[j]? = some x:=⟨_,zE (by omega)⟩
   have fb:r[(j:Int).toNat]? = some x:=hx;have bx:=jd.at hx;have ck:=GD N.toa6 bx Hl (by omega) (by omega);have hs:=OH (l:=(r.map (· * C1 r)).take j) (m:=WW) (x:=x*C1 r) (by omega);rw[Df,<-SP (show (r.map (· * C1 r))[j]? = some (x*C1 r) by rw[List.getElem?_map,hx];rfl)]at hs;generalize ED ((r.map (· * C1 r)).take j) WW=W0 at *;(repeat' ((first|(apply AG<;>intro hc<;>try (exfalso;omega))|(apply AZ;omega)|(refine BA (by assumption) ?_ rfl ?_;omega)|apply AE)<;>conv=>whnf))
   refine V6 (by omega) (by omega) ?_;(conv=>whnf)
   (repeat' (refine AC (ck) ?_<;>conv=>whnf))
   refine AZ (by rw[List.length_map];omega) ?_;(conv=>whnf)
   skip
   refine TT (by omega) (by omega) ?_;(conv=>whnf)
   refine FF (enc:=eO) (some (x*C1 r)) rfl (λ e=>by cases e<;>rfl) (by omega) ?_;(conv=>whnf)
   rw[hs];refine cM (by omega) (by rw[List.length_map,List.length_map,<-hs,List.length_set]) ?_;(conv=>whnf)
   (repeat' ((first|(apply AU;omega)|fail)<;>conv=>whnf))
   exact BG [] (jh (j+1) (by omega) (by omega))
  have ej:j=WW:=by omega
  clear jh;rw[List.take_of_length_le (by rw[List.length_map];omega),OE (by rw[List.length_map];exact ax),k6];have uj:((a.map C1).take i).length=i:=by rw[List.length_take,List.length_map];omega
  have hfi:=J9 (l:=(a.map C1).take i) (m:=n) (by omega);have iu:=OH (l:=(a.map C1).take i) (m:=n) (x:=C1 r) (by omega);rw[uj,<-SP Nx]at iu;generalize ED ((a.map C1).take i) n=W1 at *;(repeat' ((first|(apply AG<;>intro hc<;>try (exfalso;omega))|(apply AZ;omega)|apply AE)<;>conv=>whnf))
  refine FF (enc:=eO) (some (C1 r)) rfl (λ e=>by cases e<;>rfl) (by omega) ?_;(conv=>whnf)
  rw[iu];(repeat' ((first|(apply AU;omega)|fail)<;>conv=>whnf))
  exact BG [] (ih (i+1) (by omega) (by omega))
 have ei:i=n:=by omega
 clear ih;rw[ei,mZ (by simp [whole,ag]),List.take_of_length_le (by rw[List.length_map];omega),OE (by rw[List.length_map];exact ag)];(repeat' ((first|(apply AG<;>intro hc<;>try (exfalso;omega))|apply AE)<;>conv=>whnf))
 exact BW [] (by (conv=>whnf);exact ⟨rfl,rfl,rfl⟩) aj
theorem AkN (N:w7 L) (q2 q3:Bool) (b0 jm:List (List Rat)) {m0 m1:List (List Rat)} {n cw WW K0 c:Nat} {P:List Nat} {o:Bool} {l:Rat} {rp:List Rat} (sc:List Rat) (ti:m0.length=n) (hn:1<=n/\n<=52) (hW:cw<=WW) (Dx:WW<=104) (Ab:1<=K0) (hB:6^n*K0<=1000000000000) (hP:P.length<n) (ou:c<cw) (hS:TZ m0 K0 WW cw P c o l rp m1 (P.length+1)) {kk:List It} {Q:Tm->Mem->Prop}
  (aj : ∀ m2,TZ m0 K0 WW cw P c o l rp m2 n->AA L kk ([(9,.bool o),(8,.int .i64 c),(7,.int .i64 (P.length:Nat)),(10,.ptr 233010 0 0 0),(5,.ptr 233005 0 0 0),(0,.row 231016 0 1 0 n),(0+1,.int .i64 cw)]++[(1000+49,.int .i64 n),(1000+48,.row 231016 0 1 0 n),(1000+9,.row 231016 0 1 0 n),(1000+6,.int .i64 n),(1000+(0+1),.sl q2 (CN q3 b0))]) ([(231016,231016,.mx (BK 3 eQ m2)),(233010,233010,.bx (eQ l)),(233005,233005,.bx [.bool false,.nil,.nil])]++[(22,22,.rw 1 (eM jm)),(231019,231019,.rw 3 (sc.map eQ))]) Q) :
  AA L (.lp OI.l4 :: .g7 6::kk) ([(12,.int .i64 ((P.length+1:Nat):Int)),(9,.bool o),(8,.int .i64 c),(7,.int .i64 (P.length:Nat)),(10,.ptr 233010 0 0 0),(5,.ptr 233005 0 0 0),(0,.row 231016 0 1 0 n),(0+1,.int .i64 cw)]++[(1000+49,.int .i64 n),(1000+48,.row 231016 0 1 0 n),(1000+9,.row 231016 0 1 0 n),(1000+6,.int .i64 n),(1000+(0+1),.sl q2 (CN q3 b0))]) ([(231016,231016,.mx (BK 3 eQ m1)),(233010,233010,.bx (eQ l)),(233005,233005,.bx [.bool false,.nil,.nil])]++[(22,22,.rw 1 (eM jm)),(231019,231019,.rw 3 (sc.map eQ))]) Q:=by
 refine XP (l:=[_,_]) rfl ?_;refine FV (λ_ i=>n-i) (λ(m:List (List Rat)) (i:Nat)=>TZ m0 K0 WW cw P c o l rp m i/\P.length+1<=i/\i<=n) (λ_ i=>[(12,.int .i64 i)]) (λ m _=>[(231016,231016,.mx (BK 3 eQ m))]) [] [] m1 (P.length+1) (by (conv=>whnf);exact ⟨rfl,rfl,rfl⟩) ⟨hS,by omega,by omega⟩ ?_;clear hS;intro m2 i ⟨hS,j1,j2⟩ sh;have vp:=hS.len;rw[ti]at vp;by_cases hj:i<n
 ·obtain ⟨rq,ft⟩ : ∃ r,m2[i]? = some r:=⟨_,zE (by omega)⟩
  have qk:=hS.ht;have Hj:=hS.z9.lr rq (zM ft);have bm:=hS.z9.lr rp (zM qk);(repeat' ((first|(apply AG<;>intro hc<;>try (exfalso;omega))|(apply AZ;omega)|(refine FY ?_ (λ r hr => ?_);omega)|apply AE)<;>conv=>whnf))
  rename_i rA hrA;cases ft.symm.trans hrA;cases qk.symm.trans hr;rw[show 0+((i:Nat):Int).toNat=i by omega,show 0+((P.length:Nat):Int).toNat=P.length by omega,show (List.map eQ rq).length=WW by rw[List.length_map];exact Hj,show (List.map eQ rp).length=WW by rw[List.length_map];exact bm];have tk:rq[c]? = some (rq.getD c 0):=VK (by omega);refine GI 1000 N.PK rfl rfl ?_;have vu:rp[c]? = some (rp.getD c 0):=VK (by omega);have Dd:=hS.step (by omega) ft;have n7:(comb (rp.getD c 0) (rq.getD c 0) l rq rp).length=WW:=by rw[tG (by omega)];exact Hj
  have hcg:=λ j=>jT (p:=rp.getD c 0) (f:=rq.getD c 0) (l:=l) (r:=rq) (t:=rp) (by omega) j
  have jf:=λ j (h:j<c)=>hS.z9.zr i rq (by omega) ft j h
  have ya:=λ j (h:j<c)=>hS.z9.zr P.length rp (Nat.le_refl _) qk j h
  have Vg:=hS.hi i rq (Nat.le_refl i) ft;have Vf:=hS.bt;have fy:=hS.bl;have mf:=hS.l0;have Ce:=Vf.at vu;have Cf:=Vg.at tk;generalize Je:rp.getD c 0=pv at *;generalize hfv:rq.getD c 0=fv at *;generalize qa:comb pv fv l rq rp=cb at *;have Gt:cb.take c++rq.drop c=rq:=Aja (by omega) λ j hj=>⟨by rw[hcg,jf j hj,ya j hj,Rat.zero_mul,Rat.zero_mul,Rat.sub_eq_add_neg,Rat.neg_zero,Rat.add_zero,Rat.div_def,Rat.zero_mul],jf j hj⟩
  have Bq:=UJ (z:=3) ft;have Uw:=UJ (z:=3) qk;have Ks:(BK 3 eQ m2).length=n:=by simp only[BK,List.length_map];omega
  have Dv:(BK 3 eQ m2).set i (some (3,cb.map eQ))=BK 3 eQ (m2.set i cb):=by simp only[BK,List.map_set]
  generalize BK 3 eQ m2=R2 at *;have Fg:R2.set i (some (3,rq.map eQ))=R2:=oL Bq;(repeat' ((first|(apply AZ;omega)|apply AE)<;>conv=>whnf))
  refine cC Uw ?_;(conv=>whnf)
  (repeat' ((first|(apply AZ;omega)|(refine F9 ?_ (λ_=>rfl) (λ v hv => ?_);omega))<;>conv=>whnf))
  cases vu.symm.trans hv;skip
  refine cC Bq ?_;(conv=>whnf)
  (repeat' ((first|(refine F9 ?_ (λ_=>rfl) (λ v hv => ?_);omega)|fail)<;>conv=>whnf))
  cases tk.symm.trans hv;skip
  have hp7:=Nat.le_trans (Rl Ab P.length) (nO hB (show P.length+1<=n by omega));generalize 6^P.length*K0=BB at *;refine BP (λ j=>WW-j) (λ(j:Nat)=>c<=j/\j<=WW) (λ j=>[(10,.int .i64 j)]) (λ j=>[(231016,231016,.mx (R2.set i (some (3,(cb.take j++rq.drop j).map eQ))))]) [] [] c (by first|exact (by (conv=>whnf);exact ⟨rfl,rfl,rfl⟩)|(rw[Gt,Fg];exact (by (conv=>whnf);exact ⟨rfl,rfl,rfl⟩))) ⟨by omega,by omega⟩ ?_;intro j ⟨k1,k2⟩ jh;have dk:(cb.take j++rq.drop j).length=WW:=by rw[List.length_append,List.length_take,List.length_drop];omega
  by_cases hjn:j<WW
  ·obtain ⟨x,hx⟩ : ∃ x,rq[j]? = some x:=⟨_,zE (by omega)⟩
   obtain ⟨y,hy⟩ : ∃ y,rp[j]? = some y:=⟨_,zE (by omega)⟩;have yq:cb[j]? = some ((x*pv-y*fv)/l):=by rw[<-qa];exact Aep hx hy
   have Gq:=Ai8 (a:=cb) (by omega) hx;have lk:=Ai9 (b:=rq) (by omega) yq;have bx:=Vg.at hx;have si:=Vf.at hy
   have ck:=GD N.toa6 bx Ce (by omega) (by omega);have dj:=GD N.toa6 si Cf (by omega) (by omega)
   have Fl:=eB N.toy8 (bx.mul Ce) (si.mul Cf) (by omega) (by omega);have hDi:=dY N.toa6 ((bx.mul Ce).mr (si.mul Cf)) fy (by omega) (by omega) mf;have Kt:(R2.set i (some (3,(cb.take j++rq.drop j).map eQ)))[P.length]? = some (some (3,rp.map eQ)):=by rw[List.getElem?_set,if_neg (by omega)];exact Uw
   generalize cb.take j++rq.drop j=cm at *;(repeat' ((first|(apply AG<;>intro hc<;>try (exfalso;omega))|(apply AZ;omega)|apply AE)<;>conv=>whnf))
   refine TT rfl (by omega) ?_;(conv=>whnf)
   (repeat' ((first|(refine F9 ?_ (λ_=>rfl) (λ v hv => ?_);omega)|fail)<;>conv=>whnf))
   cases Gq.symm.trans hv;(repeat' ((first|(apply AZ;omega)|refine AC (ck) ?_)<;>conv=>whnf))
   refine cC Kt ?_;(conv=>whnf)
   (repeat' ((first|(refine F9 ?_ (λ_=>rfl) (λ v hv => ?_);omega)|fail)<;>conv=>whnf))
   cases hy.symm.trans hv;(repeat' ((first|refine AC (dj) ?_|refine AC (Fl) ?_)<;>conv=>whnf))
   (repeat' ((first|(apply AZ;omega)|refine AC (hDi) ?_)<;>conv=>whnf))
   refine TT rfl (by omega) ?_;(conv=>whnf)
   refine FF (enc:=eQ) ((x*pv-y*fv)/l) rfl (λ_=>rfl) (by omega) ?_;rw[lk];(conv=>whnf)
   refine cM rfl (by rw[List.length_map,List.length_map,<-lk,List.length_set]) ?_;(conv=>whnf)
   (repeat' ((first|(apply AU;omega)|fail)<;>conv=>whnf))
   exact BG [] (jh (j+1) (by omega) ⟨by omega,by omega⟩)
  ·have ej:j=WW:=by omega
   clear jh;rw[List.take_of_length_le (by omega),List.drop_of_length_le (by omega),List.append_nil,Dv];(repeat' ((first|(apply AG<;>intro hc<;>try (exfalso;omega))|apply AE)<;>conv=>whnf))
   refine ⟨rfl,_,rfl,?_⟩;(conv=>whnf)
   (repeat' ((first|(apply AU;omega)|fail)<;>conv=>whnf))
   exact BG [] (sh (m2.set i cb) (i+1) (by omega) ⟨Dd,by omega,by omega⟩)
 ·have ei:i=n:=by omega
  clear sh;rw[ei]at hS;(repeat' ((first|(apply AG<;>intro hc<;>try (exfalso;omega))|apply AE)<;>conv=>whnf))
  exact BW [] (by (conv=>whnf);exact ⟨rfl,rfl,rfl⟩) (aj m2 hS)
theorem AiN {a b:List (List Rat)} {n w k:Nat} (mc : ∀ r∈a,r.length=n) (td : ∀ r∈b,r.length=w) (jk:Ms k a) (jo:Ms k b):(∀ r∈CO a b,r.length=n+w)/\Ms k (CO a b):=by
 constructor
 ·intro r hr
  obtain ⟨i,hi⟩:=List.getElem?_of_mem hr;have w9:=(zS hi).1;simp only[CO,List.length_zipWith]at w9;obtain ⟨x,hx⟩ : ∃ x,a[i]? = some x:=⟨_,zE (by omega)⟩;obtain ⟨y,hy⟩ : ∃ y,b[i]? = some y:=⟨_,zE (by omega)⟩;obtain rfl:=Option.some.inj ((VN hx hy).symm.trans hi);rw[List.length_append,mc x (zM hx),td y (zM hy)]
 ·intro r hr
  obtain ⟨i,hi⟩:=List.getElem?_of_mem hr;have w9:=(zS hi).1;simp only[CO,List.length_zipWith]at w9;obtain ⟨x,hx⟩ : ∃ x,a[i]? = some x:=⟨_,zE (by omega)⟩;obtain ⟨y,hy⟩ : ∃ y,b[i]? = some y:=⟨_,zE (by omega)⟩;obtain rfl:=Option.some.inj ((VN hx hy).symm.trans hi);intro z hz;rcases List.mem_append.1 hz with hz|hz
  ·exact jk.at hx z hz
  ·exact jo.at hy z hz
theorem Ahm (N:w7 L) (q q1 q2 q3:Bool) (a b:List (List Rat)) (n w k K0:Nat) (ag:a.length=n) (mc : ∀ r∈a,r.length=n) (fy:b.length=n) (td : ∀ r∈b,r.length=w) (hn:1<=n/\n<=52) (hw:1<=w/\w<=52) (Gf:k<=K0) (Ab:1<=K0) (jk:Ms k a) (jo:Ms k b)
  (tn : ∀ r∈CO a b,∀ j,Bt K0 (C1 (r.take j))) (Bb:Ms K0 (whole (CO a b)))
  (hB:6^n*K0<=1000000000000) (hC:FG (6^n*K0) n n<=1000000000000) {B0:Nat} (xh:FG (6^n*K0) n n+6^n*K0<=B0) :
  ∃ v,Ev L 235 [.sl q (CN q1 a),.sl q2 (CN q3 b)] v/\((¬ NS n a/\v = .j5 [.sl false [],.int .i64 11])\/(NS n a /\ ∃ y:Nat->List Rat,v = .j5 [.sl false (eM (KE y n w)),.int .i64 0] /\
   ∀ c,c<w->(y c).length=n/\Bs B0 (y c) /\ ∀ (i:Nat) (r s:List Rat),a[i]? = some r->b[i]? = some s->A0 r (y c)=s.getD c 0)):=by
 have hI:=HS N.toa6 1 (by omega);have cp:(CO a b).length=n:=by simp [CO,ag,fy]
 have Iz : ∀ r∈CO a b,r.length=n+w:=λ r hr=>by
  obtain ⟨i,hi⟩:=List.getElem?_of_mem hr;have w9:=(zS hi).1;obtain ⟨x,hx⟩ : ∃ x,a[i]? = some x:=⟨_,zE (by omega)⟩;obtain ⟨y,hy⟩ : ∃ y,b[i]? = some y:=⟨_,zE (by omega)⟩;obtain rfl:=Option.some.inj ((VN hx hy).symm.trans hi);rw[List.length_append,mc x (zM hx),td y (zM hy)]
 have Ap:Ms k (CO a b):=λ r hr=>by
  obtain ⟨i,hi⟩:=List.getElem?_of_mem hr;have w9:=(zS hi).1;obtain ⟨x,hx⟩ : ∃ x,a[i]? = some x:=⟨_,zE (by omega)⟩;obtain ⟨y,hy⟩ : ∃ y,b[i]? = some y:=⟨_,zE (by omega)⟩;obtain rfl:=Option.some.inj ((VN hx hy).symm.trans hi);intro z hz;rcases List.mem_append.1 hz with hz|hz
  ·exact jk.at hx z hz
  ·exact jo.at hy z hz
 refine Ev.xE N.PJ rfl rfl ?_;(repeat' ((first|apply AR|apply AE)<;>conv=>whnf))
 unfold CS;refine ⟨⟨by omega,by omega,by simp only[EA];omega,by omega⟩,?_⟩;rw[Int.toNat_natCast,ag];(conv=>whnf)
 skip
 refine Xy 22 22 n rfl ?_;refine BP (λ i=>n-i) (λ(i:Nat)=>i<=n) (λ i=>[(25,.int .i64 i)]) (λ i=>[(22,22,.rw 1 ((fz none (((CO a b).take i).map some) n).map kS))]) [] [] 0 (by first|exact (by (conv=>whnf);exact ⟨rfl,rfl,rfl⟩)|(rw[List.take_zero,List.map_nil,show fz (none:Option (List Rat)) [] n=List.replicate n none by simp [fz],List.map_replicate];exact (by (conv=>whnf);exact ⟨rfl,rfl,rfl⟩))) (by omega) ?_;intro i p1 ih;by_cases hi:i<n
 ·obtain ⟨r,s9⟩ : ∃ r,a[i]? = some r:=⟨_,zE (by omega)⟩
  obtain ⟨s,dp⟩ : ∃ s,b[i]? = some s:=⟨_,zE (by omega)⟩;have ig:a[(i:Int).toNat]? = some r:=s9;have tl:b[(i:Int).toNat]? = some s:=dp;have ax:=mc r (zM s9);have Av:=td s (zM dp);have hCc:=Agb N true q1 q3 r s (by omega) (by omega) (by omega);have uj:(((CO a b).take i).map some).length=i:=by rw[List.length_map,List.length_take];omega
  have eg:=YM (z:=(none:Option (List Rat))) (l:=((CO a b).take i).map some) (m:=n) (by omega);have iu:=YN (z:=(none:Option (List Rat))) (x:=some (r++s)) (l:=((CO a b).take i).map some) (m:=n) (by omega);have hta:(CO a b).take (i+1)=(CO a b).take i++[r++s]:=by rw[List.take_add_one,VN s9 dp];rfl
  rw[uj,show ((CO a b).take i).map some++[some (r++s)]=((CO a b).take (i+1)).map some by rw[hta,List.map_append];rfl]at iu;generalize fz (none:Option (List Rat)) (((CO a b).take i).map some) n=J at *;(repeat' ((first|(apply AG<;>intro hc<;>try (exfalso;omega))|(apply AZ;omega)|(refine BA (by assumption) ?_ rfl ?_;omega)|refine X0 rfl rfl ?_|apply AE|refine AC (hCc) ?_)<;>conv=>whnf))
  refine FF (enc:=kS) (some (r++s)) rfl (λ e=>by cases e<;>rfl) (by omega) ?_;(conv=>whnf)
  rw[iu];(repeat' ((first|(apply AU;omega)|fail)<;>conv=>whnf))
  exact BG [] (ih (i+1) (by omega) (by omega))
 have ei:i=n:=by omega
 clear ih;rw[ei,List.take_of_length_le (by omega),AhB cp];(repeat' ((first|(apply AG<;>intro hc<;>try (exfalso;omega))|apply AE)<;>conv=>whnf))
 have Ki:K0<=1000000000000:=by simpa using nO hB (Nat.zero_le n)
 refine GI 1000 N.OJ rfl rfl ?_;(repeat' (apply AE<;>conv=>whnf))
 unfold CS;refine ⟨⟨by omega,by omega,by simp only[EA];omega,by omega⟩,?_⟩;rw[Int.toNat_natCast];(conv=>whnf)
 skip
 refine EJ (enc:=eO) none n rfl (by omega) (by omega) ?_;(conv=>whnf)
 skip
 refine BW [] (by (conv=>whnf);exact ⟨rfl,rfl,rfl⟩) (AkO N q q1 q2 q3 a b (CO a b) n (n+w) k cp Iz hn (by omega) Ap tn Gf Ki ?_);(repeat' (apply AE<;>conv=>whnf))
 refine ⟨rfl,_,rfl,?_⟩;(conv=>whnf)
 skip
 have Dx:n+w<=104:=by omega
 have hW:n<=n+w:=by omega
 have ti:(whole (CO a b)).length=n:=by simp only[whole,List.length_map];exact cp
 have Cs:=Alq Iz;have Cr:=Bb;have vn:=Alr (CO a b);have Mh:a.length=b.length:=by omega
 clear Ap Iz jk jo Ki ei hi p1 i tn Bb Gf;generalize whole (CO a b)=m0 at ti Cs Cr vn ⊢;refine E2 1000 N.OI rfl rfl ?_;(repeat' ((first|apply AE|refine AC (hI) ?_)<;>conv=>whnf))
 refine Yg (λ_ P _ _ _=>n-P.length) (λ(m:List (List Rat)) (P:List Nat) (c:Nat) (odd:Bool) (l:Rat)=>G2 m0 K0 (n+w) n m P c odd l) (λ_ P c odd _=>[(7,.int .i64 (P.length:Nat)),(8,.int .i64 c),(9,.bool odd)]) (λ m _ _ _ l=>[(231016,231016,.mx (BK 3 eQ m)),(233010,233010,.bx (eQ l))]) [] [] m0 [] 0 false ((1:Int):Rat) (by (conv=>whnf);exact ⟨rfl,rfl,rfl⟩) (G2.start Cs Cr) ?_;intro m P c odd l hE eh;have dk:=hE.len;have va:=hE.z9.pl;rw[ti]at dk;by_cases hP:P.length<n
 ·have hp6:=nO hB (show P.length<=n by omega)
  (repeat' ((first|(apply AG<;>intro hc<;>try (exfalso;omega))|apply AE)<;>conv=>whnf))
  refine Xx (l:=[_,_]) (λ(m1:List (List Rat)) (c:Nat) (o:Bool)=>G2 m0 K0 (n+w) n m1 P c o l/\(c<n -> ∃ rp,m1[P.length]? = some rp/\rp.getD c 0≠0)) (λ_ c o=>[(8,.int .i64 c),(9,.bool o)]) (λ m1 _ _=>[(231016,231016,.mx (BK 3 eQ m1))]) [17] rfl ?_ ?_
  ·clear hE dk va
   intro m1 c Av4 ⟨hE,Je⟩;have dk:=hE.len;have va:=hE.z9.pl;have z0:=hE.cc;rw[ti]at dk;by_cases ou:c<n
   ·obtain ⟨rp,My,Wk⟩:=Je ou
    clear Je;have hS:=hE.swp ou My Wk;(repeat' ((first|(apply AG<;>intro hc<;>try (exfalso;omega))|(apply AU;omega)|apply AE)<;>conv=>whnf))
    refine BW [] (by (conv=>whnf);exact ⟨rfl,rfl,rfl⟩) (AkN N q2 q3 b (CO a b) ((CO a b).map C1) ti hn hW Dx Ab hB hP ou hS λ m2 hS => ?_);have qk:=hS.ht;have Avx:=hS.z9.lr rp (zM qk);have vu:rp[c]? = some (rp.getD c 0):=VK (by omega);have vp:=hS.len;have aj:=hS.done Ab (by omega);have Fe:(P++[c]).length=P.length+1:=by simp
    generalize rp.getD c 0=pv at vu aj;clear hS hE Wk My;(repeat' ((first|(apply AZ;omega)|(refine FY ?_ (λ r hr => ?_);omega)|apply AE)<;>conv=>whnf))
    cases qk.symm.trans hr;refine AZ (by rw[List.length_map];omega) ?_;(conv=>whnf)
    (repeat' ((first|(apply AU;omega)|(refine F9 ?_ (λ_=>rfl) (λ v hv => ?_);omega)|refine GJ (by assumption) ?_)<;>conv=>whnf))
    cases vu.symm.trans hv;skip
    rw[show ((P.length:Nat):Int)+1=((P++[c]).length:Nat) by rw[Fe];omega];exact BW [] (by (conv=>whnf);exact ⟨rfl,rfl,rfl⟩) (eh m2 (P++[c]) (c+1) _ pv (by rw[Fe];omega) aj)
   ·clear eh Je
    (repeat' ((first|(apply AG<;>intro hc<;>try (exfalso;omega))|apply AE)<;>conv=>whnf))
    refine ⟨rfl,?_⟩;(conv=>whnf)
    (repeat' ((first|(apply AG<;>intro hc<;>try (exfalso;omega))|fail)<;>conv=>whnf))
    have gi:n<=c\/n<=P.length:=Or.inl (by omega);have Eh:=uZ (w:=w) hE vn Mh mc ag gi;skip
    refine ⟨.j5 [.sl false [],.int .i64 11],?_,Or.inl ⟨λ h=>absurd (Eh.2 h) (by omega),rfl⟩⟩;(conv=>whnf)
    exact AX rfl (IQ [] 11)
  ·clear eh
   intro vo;refine BP (λ c=>n-c) (λ(c:Nat)=>G2 m0 K0 (n+w) n m P c odd l) (λ c=>[(8,.int .i64 c)]) (λ_=>[]) [17] [] c (by (conv=>whnf);exact ⟨rfl,rfl,rfl⟩) hE ?_;clear hE;intro c hE ch;have z0:=hE.cc;by_cases ou:c<n
   ·(repeat' ((first|(apply AG<;>intro hc<;>try (exfalso;omega))|apply AE)<;>conv=>whnf))
    refine BP (λ i=>n-i) (λ(i:Nat)=>P.length<=i/\i<=n /\ ∀ (q:Nat) (r:List Rat),P.length<=q->q<i->m[q]? = some r->r.getD c 0=0) (λ i=>[(11,.int .i64 i)]) (λ_=>[]) [] [] P.length (by (conv=>whnf);exact ⟨rfl,rfl,rfl⟩) ⟨Nat.le_refl _,by omega,λ q r h1 h2=>absurd h1 (by omega)⟩ ?_;intro i ⟨i1,i2,i3⟩ ih;by_cases hi:i<n
    ·obtain ⟨rp,s9⟩ : ∃ r,m[i]? = some r:=⟨_,zE (by omega)⟩
     have ax:=hE.z9.lr rp (zM s9);have jt:rp[c]? = some (rp.getD c 0):=VK (by omega);have vb:=WP N.toa6 (hE.ms.at s9 _ (zM jt)) (by omega);have hz:=TK (x:=rp.getD c 0);generalize nq:rp.getD c 0=rc at *;generalize q6 rc.num=sg at *;by_cases rz:sg=0
     ·(repeat' ((first|(apply AG<;>intro hc<;>try (exfalso;omega))|(apply AZ;omega)|(refine FY ?_ (λ r hr => ?_);omega)|apply AE)<;>conv=>whnf))
      cases s9.symm.trans hr;refine AZ (by rw[List.length_map];omega) ?_;(conv=>whnf)
      (repeat' ((first|(refine F9 ?_ (λ_=>rfl) (λ v hv => ?_);omega)|refine GJ (by assumption) ?_)<;>conv=>whnf))
      cases jt.symm.trans hv;(repeat' ((first|(apply AG<;>intro hc<;>try (exfalso;omega))|(apply AU;omega)|refine AC (vb) ?_)<;>conv=>whnf))
      refine BW [] (by (conv=>whnf);exact ⟨rfl,rfl,rfl⟩) (ih (i+1) (by omega) ⟨by omega,by omega,λ q x h1 h2 hx => ?_⟩);by_cases e:q=i
      ·subst e
       cases s9.symm.trans hx;rw[nq];exact hz.1 rz
      ·exact i3 q x h1 (by omega) hx
     ·clear ih ch
      have Gv:rc≠0:=λ e=>rz (hz.2 e)
      (repeat' ((first|(apply AG<;>intro hc<;>try (exfalso;omega))|(apply AZ;omega)|(refine FY ?_ (λ r hr => ?_);omega)|apply AE)<;>conv=>whnf))
      cases s9.symm.trans hr;refine AZ (by rw[List.length_map];omega) ?_;(conv=>whnf)
      (repeat' ((first|(refine F9 ?_ (λ_=>rfl) (λ v hv => ?_);omega)|refine GJ (by assumption) ?_)<;>conv=>whnf))
      cases jt.symm.trans hv;(repeat' ((first|(apply AG<;>intro hc<;>try (exfalso;omega))|(apply AZ;omega)|(refine FY ?_ (λ r hr => ?_);omega)|refine GJ (by assumption) ?_|refine AC (vb) ?_)<;>conv=>whnf))
      ·obtain ⟨t,xx⟩ : ∃ t,m[P.length]? = some t:=⟨_,zE (by omega)⟩
       refine AZ ⟨rfl,by simp only[BK,List.length_map];omega⟩ ?_;(conv=>whnf)
       (repeat' ((first|(apply AZ;omega)|refine GJ (by assumption) ?_)<;>conv=>whnf))
       rw[show 0+((i:Nat):Int).toNat=i by omega,show 0+((P.length:Nat):Int).toNat=P.length by omega];refine AZ ⟨rfl,by simp only[BK,List.length_map,List.length_set,List.length_range];omega,Sj (by simp only[BK,List.length_map];omega)⟩ ?_;(conv=>whnf)
       skip
       have Ke:=hE.swap s9 xx i1 (Nat.le_refl _) (by omega);have sv:c<n -> ∃ Xp,((m.set i t).set P.length rp)[P.length]? = some Xp/\Xp.getD c 0≠0:=λ_=>⟨rp,by rw[List.getElem?_set,if_pos rfl,if_pos (by rw[List.length_set];omega)],by rw[nq];exact Gv⟩
       generalize Wf:(!odd)=ob at *;cases ob;all_goals
        (conv=>whnf)
        skip
        refine cD.go ?_;refine qK (k:=231016) (i:=i) (j:=P.length) rfl (UJ s9) (UJ xx) rfl rfl ?_;rw[zI];exact BW [] (by (conv=>whnf);exact ⟨rfl,rfl,rfl⟩) (vo _ c _ ⟨Ke,sv⟩)
      ·have ei:i=P.length:=by omega
       exact cD.go (BW [] (by (conv=>whnf);exact ⟨rfl,rfl,rfl⟩) (vo m c odd ⟨hE,λ_=>⟨rp,by rw[<-ei];exact s9,by rw[nq];exact Gv⟩⟩))
    ·have ei:i=n:=by omega
     clear ih;(repeat' ((first|(apply AG<;>intro hc<;>try (exfalso;omega))|(apply AU;omega)|apply AE)<;>conv=>whnf))
     exact BG [] (ch (c+1) (by omega) (hE.skip ou λ q x h1 hx=>i3 q x h1 (by have:=(zS hx).1;omega) hx))
   ·clear ch
    (repeat' ((first|(apply AG<;>intro hc<;>try (exfalso;omega))|apply AE)<;>conv=>whnf))
    exact cD.go (BW [] (by (conv=>whnf);exact ⟨rfl,rfl,rfl⟩) (vo m c odd ⟨hE,λ h=>absurd h ou⟩))
 ·clear eh
  (repeat' ((first|(apply AG<;>intro hc<;>try (exfalso;omega))|apply AE)<;>conv=>whnf))
  refine ⟨rfl,?_⟩;(conv=>whnf)
  (repeat' ((first|(apply AG<;>intro hc<;>try (exfalso;omega))|fail)<;>conv=>whnf))
  have gi:n<=c\/n<=P.length:=Or.inr (by omega);have Eh:=uZ (w:=w) hE vn Mh mc ag gi;have Ih:P.length=n:=by have:=hE.z9.le;have:=hE.z9.pl;omega
  have fr:=Eh.1 Ih;have Lw:=AkM hE vn Mh mc td Ih dk;have Oh:=Sz hE Ih dk;have hmw:=hE.z9.lr;have lk:=hE.ms;have tc:=hE.bl;have mf:=hE.l0;rw[Ih]at lk tc;clear hE Eh va Cr Cs vn;have Is : ∀ (e:Nat) (r:List Rat),m[e]? = some r->r.getD e 0≠0:=λ e r hr=>by
   rw[<-J5 hr];exact (Oh e (by have:=(zS hr).1;omega)).1
  skip
  unfold CS;refine ⟨⟨by omega,by omega,by simp only[EA];omega,by omega⟩,?_⟩;rw[Int.toNat_natCast];(conv=>whnf)
  skip
  refine BP (λ u=>n-u) (λ(u:Nat)=>u<=n) (λ u=>[(61,.int .i64 u)]) (λ u=>[(58,58,.mx (List.replicate u (some (3,(ED [] w).map eO))++List.replicate (n-u) none))]) [] [] 0 (by (conv=>whnf);exact ⟨rfl,rfl,rfl⟩) (by omega) ?_;intro u r1 uh;by_cases hu:u<n
  ·obtain ⟨s,dp⟩ : ∃ s,b[u]? = some s:=⟨_,zE (by omega)⟩
   have tl:b[(u:Int).toNat]? = some s:=dp;have Av:=td s (zM dp);(repeat' ((first|(apply AG<;>intro hc<;>try (exfalso;omega))|apply AR|(refine BA (by assumption) ?_ rfl ?_;omega)|apply AE)<;>conv=>whnf))
   rw[Av];refine EJ (enc:=eO) none w rfl rfl (by omega) ?_;(conv=>whnf)
   (repeat' ((first|(apply AZ;omega)|fail)<;>conv=>whnf))
   unfold AP CH;refine ⟨by simp,by simp;omega,?_⟩;(conv=>whnf)
   rw[show 0+((u:Int)).toNat=u by omega,<-OG,Ahw _ _ r1 hu];(repeat' ((first|(apply AU;omega)|fail)<;>conv=>whnf))
   exact BG [] (uh (u+1) (by omega) (by omega))
  have eu:u=n:=by omega
  subst eu;clear uh;obtain ⟨y,hy⟩ : ∃ y:Nat->List Rat,y=λ c'=>(EW (u+c') l m 0).map (· / l):=⟨_,rfl⟩
  have ql : ∀ c',(y c').length=u:=λ c'=>by rw[hy,List.length_map,T4];exact dk
  have xi:(KE y u w).length=u:=by simp [KE]
  have yl : ∀ e,e<u->(KE y u w)[e]? = some ((List.range w).map λ c'=>(y c').getD e 0):=λ e he=>by simp [KE,he]
  have Ux : ∀ r∈KE y u w,r.length=w:=λ r hr=>by
   obtain ⟨i,_,rfl⟩:=List.mem_map.1 hr;simp
  rw[show List.replicate u (some (3,List.map eO (ED [] w)))++List.replicate (u-u) none=BK 3 eO (ot (KE y u w) w 0 0) by rw[AjJ,xi];simp [BK]];obtain ⟨s0,dp⟩ : ∃ s,b[0]? = some s:=⟨_,zE (by omega)⟩;have Ns:b[(0:Int).toNat]? = some s0:=dp;have Nu:=td s0 (zM dp);generalize hRg:KE y u w=R at xi yl Ux ⊢;(repeat' ((first|(apply AG<;>intro hc<;>try (exfalso;omega))|apply AR|(refine BA (by assumption) ?_ rfl ?_;omega)|apply AE)<;>conv=>whnf))
  rw[Nu];refine BP (λ c=>w-c) (λ(c:Nat)=>c<=w) (λ c=>[(78,.int .i64 c)]) (λ c=>[(58,58,.mx (BK 3 eO (ot R w c 0)))]) [] [] 0 (by (conv=>whnf);exact ⟨rfl,rfl,rfl⟩) (by omega) ?_;intro c' r2 ch;by_cases rl:c'<w
  ·have Bn:=Agp N true true m u (u+w) (u+c') (6^u*K0) l dk hmw (by omega) (by omega) (by omega) (by omega) Is lk tc (by omega)
   have yp:=cY (c:=u+c') (n:=u) tc m 0 (by omega) lk;have tt:=T4 (u+c') l m 0;have Wt : ∀ (e:Nat) (x:Rat),(EW (u+c') l m 0)[e]? = some x->(y c').getD e 0=x/l:=λ e x hx=>by
    rw[hy,List.getD_eq_getElem?_getD,List.getElem?_map,hx];rfl
   rw[dk]at yp tt;rw[Int.natCast_add]at Bn;generalize EW (u+c') l m 0=xs at Bn yp tt Wt;(repeat' ((first|(apply AG<;>intro hc<;>try (exfalso;omega))|(apply AU;omega)|apply AE)<;>conv=>whnf))
   refine J4 (λ_=>rfl) rfl (by omega) ?_;(conv=>whnf)
   (repeat' ((first|apply AR|refine AC (Bn) ?_)<;>conv=>whnf))
   refine BP (λ f=>u-f) (λ(f:Nat)=>f<=u) (λ f=>[(88,.int .i64 f)]) (λ f=>[(58,58,.mx (BK 3 eO (ot R w c' f)))]) [] [] 0 (by (conv=>whnf);exact ⟨rfl,rfl,rfl⟩) (by omega) ?_;intro f r5 fh;by_cases hf2:f<u
   ·obtain ⟨x,hx⟩ : ∃ x,xs[f]? = some x:=⟨_,zE (by omega)⟩
    have fb:xs[(f:Int).toNat]? = some x:=hx;have bx:=yp.at hx;have hD:=dY N.toa6 bx tc (by omega) (by omega) mf;have Kq:=yl f hf2;have Wb:((List.range w).map λ c'=>(y c').getD f 0)[c']? = some (x/l):=by rw[List.getElem?_map,List.getElem?_range rl,Option.map_some,Wt f x hx]
    have Mm:((List.range w).map λ c'=>(y c').getD f 0).length=w:=by simp
    generalize ((List.range w).map λ c'=>(y c').getD f 0)=row at Kq Wb Mm;have We:=fO (n:=w) (j:=c') (i:=f) Kq;rw[if_neg (by omega)]at We;have hos:=AjI (n:=w) (j:=c') Kq;have Gx:=aW R w c' f;have Ja:=J9 (l:=row.take c') (m:=w) (by rw[List.length_take];omega);have k6:=OH (l:=row.take c') (m:=w) (x:=x/l) (by rw[List.length_take];omega);rw[List.length_take,Nat.min_eq_left (by omega),<-SP Wb]at k6;generalize ot R w c' f=O at *;(repeat' ((first|(apply AG<;>intro hc<;>try (exfalso;omega))|(apply AZ;omega)|(refine BA (by assumption) ?_ rfl ?_;omega)|(refine FY ?_ (λ r hr => ?_);omega)|apply AE|refine AC (hD) ?_)<;>conv=>whnf))
    cases We.symm.trans hr;skip
    have Avc:=J9 (l:=row.take (c'+1)) (m:=w) (by rw[List.length_take];omega);refine AZ (by rw[List.length_map];omega) ?_;(conv=>whnf)
    (repeat' ((first|refine GJ (by assumption) ?_|fail)<;>conv=>whnf))
    refine FF (enc:=eO) (some (x/l)) rfl (λ e=>by cases e<;>rfl) (by omega) ?_;(conv=>whnf)
    rw[k6];refine iR (by omega) ?_;rw[hos];(conv=>whnf)
    (repeat' ((first|(apply AU;omega)|fail)<;>conv=>whnf))
    exact BG [] (fh (f+1) (by omega) (by omega))
   have ef:f=u:=by omega
   clear fh;have Cu:=AjH R w c';rw[xi]at Cu;rw[ef,Cu];(repeat' ((first|(apply AG<;>intro hc<;>try (exfalso;omega))|(apply AU;omega)|apply AE)<;>conv=>whnf))
   exact BG [] (ch (c'+1) (by omega) (by omega))
  have ec:c'=w:=by omega
  clear ch;rw[ec,AjG Ux];(repeat' ((first|(apply AG<;>intro hc<;>try (exfalso;omega))|apply AE)<;>conv=>whnf))
  refine ⟨.j5 [.sl false (eM R),.int .i64 0],?_,Or.inr ⟨fr,y,by rw[<-hRg],λ c2 rl=>⟨ql c2,?_,λ i r s h1 h2=>by rw[hy];exact Lw c2 rl i r s h1 h2⟩⟩⟩
  ·(conv=>whnf)
   refine J4 (λ_=>rfl) rfl (by omega) ?_;(conv=>whnf)
   exact AX rfl (IQ R 0)
  ·rw[hy]
   intro z hz;obtain ⟨x,hx,rfl⟩:=List.mem_map.1 hz;have yp:=cY (c:=u+c2) (n:=u) tc m 0 (by omega) lk;rw[dk]at yp;exact ((yp x hx).uy tc).le (by omega)
theorem AjC {x:Rat} {b:List Rat} {i:Nat} (h:b[i]? = some x):(b.map λ x=>[x])[i]? = some [x]:=by rw[List.getElem?_map,h];rfl
theorem sN (y:List Rat) (e:Int):A3 (.j5 [.sl false (y.map eQ),.int .i64 e]):=by
 simp only[A3,CG,and_true,true_and];exact HO y
def TH (x:Rat):Option (Nat × List (List AV)):=some (3,[eQ x])
theorem Agk (N:w7 L) (q q1 q2:Bool) (a:List (List Rat)) (b:List Rat) (n k K0:Nat) (ag:a.length=n) (mc : ∀ r∈a,r.length=n) (fy:b.length=n) (hn:1<=n/\n<=52) (Gf:k<=K0) (Ab:1<=K0) (jk:Ms k a) (jo:Bs k b)
  (tn : ∀ r∈CO a (b.map λ x=>[x]),∀ j,Bt K0 (C1 (r.take j))) (Bb:Ms K0 (whole (CO a (b.map λ x=>[x]))))
  (hB:6^n*K0<=1000000000000) (hC:FG (6^n*K0) n n<=1000000000000) {B0:Nat} (xh:FG (6^n*K0) n n+6^n*K0<=B0) :
  ∃ v,Ev L 237 [.sl q (CN q1 a),.sl q2 (b.map eQ)] v/\((¬ NS n a/\v = .j5 [.sl false [],.int .i64 11])\/(NS n a /\ ∃ y:List Rat,v = .j5 [.sl false (y.map eQ),.int .i64 0] /\
   y.length=n/\Bs B0 y /\ ∀ (i:Nat) (r:List Rat) (s:Rat),a[i]? = some r->b[i]? = some s->A0 r y=s)):=by
 have hV:=Agz N q q1 a n n ag mc hn hn;obtain ⟨r0,s9⟩ : ∃ r,a[0]? = some r:=⟨_,zE (by omega)⟩;have Cx:a[(0:Int).toNat]? = some r0:=s9;have mf:=mc r0 (zM s9);obtain ⟨v,hS,bh⟩:=Ahm N q q1 true true a (b.map λ x=>[x]) n 1 k K0 ag mc (by rw[List.length_map];exact fy) (λ r hr=>by obtain ⟨x,_,rfl⟩:=List.mem_map.1 hr;rfl) hn (by omega) Gf Ab jk (λ r hr=>by
  obtain ⟨x,hx,rfl⟩:=List.mem_map.1 hr;intro z hz;obtain rfl:=List.mem_singleton.1 hz;exact jo z hx) tn Bb hB hC xh
 refine Ev.xE N.PG rfl rfl ?_;(repeat' ((first|(apply AG<;>intro hc<;>try (exfalso;omega))|apply AR|(refine BA (by assumption) ?_ rfl ?_;omega)|apply AE|refine AC (hV) ?_)<;>conv=>whnf))
 unfold CS;refine ⟨⟨by omega,by omega,by simp only[EA];omega,by omega⟩,?_⟩;rw[Int.toNat_natCast,fy];(conv=>whnf)
 (repeat' (apply AR<;>conv=>whnf))
 refine BP (λ i=>n-i) (λ(i:Nat)=>i<=n) (λ i=>[(35,.int .i64 i)]) (λ i=>[(32,32,.mx (fz none ((b.take i).map TH) n))]) [] [] 0 (by first|exact (by (conv=>whnf);exact ⟨rfl,rfl,rfl⟩)|(rw[List.take_zero,List.map_nil,show fz (none:Option (Nat × List (List AV))) [] n=List.replicate n none by simp [fz]];exact (by (conv=>whnf);exact ⟨rfl,rfl,rfl⟩))) (by omega) ?_;intro i p1 ih;have eg:=YM (z:=(none:Option (Nat × List (List AV)))) (l:=(b.take i).map TH) (m:=n) (by rw[List.length_map,List.length_take];omega);by_cases hi:i<n
 ·obtain ⟨x,hx⟩ : ∃ x,b[i]? = some x:=⟨_,zE (by omega)⟩
  have fb:b[(i:Int).toNat]? = some x:=hx;have iu:=YN (z:=(none:Option (Nat × List (List AV)))) (x:=TH x) (l:=(b.take i).map TH) (m:=n) (by rw[List.length_map,List.length_take];omega);rw[List.length_map,List.length_take,Nat.min_eq_left (by omega),show (b.take i).map TH++[TH x]=(b.take (i+1)).map TH by rw[List.take_add_one,hx,List.map_append];rfl]at iu;generalize fz (none:Option (Nat × List (List AV))) ((b.take i).map TH) n=J at *;have Ly:J.set i (some (3,[[AV.bool (decide (x.num<0)),AV.sl false ((dg x.num.natAbs).map AL),AV.sl false ((dg x.den).map AL)]]))=fz none ((b.take (i+1)).map TH) n:=iu;(repeat' ((first|(apply AG<;>intro hc<;>try (exfalso;omega))|(apply AZ;omega)|(refine BA (by assumption) ?_ rfl ?_;omega)|apply AE)<;>conv=>whnf))
  unfold AP CH;refine ⟨by simp,by omega,?_⟩;(conv=>whnf)
  rw[show 0+((i:Int)).toNat=i by omega,Ly];(repeat' ((first|(apply AU;omega)|fail)<;>conv=>whnf))
  exact BG [] (ih (i+1) (by omega) (by omega))
 have ei:i=n:=by omega
 clear ih eg;rw[ei,List.take_of_length_le (by omega),YL (by rw[List.length_map];exact fy),show b.map TH=BK 3 eQ (b.map λ x=>[x]) by rw[BK,List.map_map];rfl];(repeat' ((first|(apply AG<;>intro hc<;>try (exfalso;omega))|(refine J4 (λ_=>rfl) rfl ?_ ?_;(first|rfl|simp))|apply AE)<;>conv=>whnf))
 ·exact fy.symm
 (conv=>whnf)
 rcases bh with ⟨fr,rfl⟩|⟨fr,y,rfl,hy⟩
 ·(repeat' ((first|(apply AG<;>intro hc<;>try (exfalso;omega))|refine AC (hS) ?_)<;>conv=>whnf))
  refine ⟨.j5 [.sl false [],.int .i64 11],?_,Or.inl ⟨fr,rfl⟩⟩;(conv=>whnf)
  exact AX rfl (IQ [] 11)
 ·obtain ⟨ql,Bc,wq⟩:=hy 0 (by omega)
  have yl : ∀ e,e<n->(KE y n 1)[e]? = some [(y 0).getD e 0]:=λ e he=>by simp [KE,he]
  have xi:(KE y n 1).length=n:=by simp [KE]
  generalize KE y n 1=R at *;(repeat' ((first|(apply AG<;>intro hc<;>try (exfalso;omega))|apply AR|refine AC (hS) ?_)<;>conv=>whnf))
  rw[xi];refine EJ (enc:=eO) none n rfl rfl (by omega) ?_;(conv=>whnf)
  (repeat' (apply AR<;>conv=>whnf))
  refine BP (λ e=>n-e) (λ(e:Nat)=>e<=n) (λ e=>[(60,.int .i64 e)]) (λ e=>[(57,57,.rw 3 ((ED ((y 0).take e) n).map eO))]) [] [] 0 (by first|exact (by (conv=>whnf);exact ⟨rfl,rfl,rfl⟩)|(rw[List.take_zero,<-OG];exact (by (conv=>whnf);exact ⟨rfl,rfl,rfl⟩))) (by omega) ?_;intro e p2 eh;have Ja:=J9 (l:=(y 0).take e) (m:=n) (by rw[List.length_take];omega);by_cases he2:e<n
  ·obtain ⟨x,hx⟩ : ∃ x,(y 0)[e]? = some x:=⟨_,zE (by omega)⟩
   have k6:=OH (l:=(y 0).take e) (m:=n) (x:=x) (by rw[List.length_take];omega);rw[List.length_take,Nat.min_eq_left (by omega),<-SP hx]at k6;have Uv:=yl e he2;rw[show (y 0).getD e 0=x by rw[List.getD_eq_getElem?_getD,hx];rfl]at Uv;have Auu:R[(e:Int).toNat]? = some [x]:=Uv;have mn:[x][(0:Int).toNat]? = some x:=rfl;generalize ED ((y 0).take e) n=F0 at *;(repeat' ((first|(apply AG<;>intro hc<;>try (exfalso;omega))|(apply AZ;omega)|(refine BA (by assumption) ?_ rfl ?_;omega)|apply AE)<;>conv=>whnf))
   refine FF (enc:=eO) (some x) rfl (λ e=>by cases e<;>rfl) (by omega) ?_;(conv=>whnf)
   rw[k6];(repeat' ((first|(apply AU;omega)|fail)<;>conv=>whnf))
   exact BG [] (eh (e+1) (by omega) (by omega))
  have ee:e=n:=by omega
  clear eh;rw[ee,List.take_of_length_le (by omega),OE ql];(repeat' ((first|(apply AG<;>intro hc<;>try (exfalso;omega))|apply AE)<;>conv=>whnf))
  refine ⟨.j5 [.sl false ((y 0).map eQ),.int .i64 0],?_,Or.inr ⟨fr,y 0,rfl,ql,Bc,λ i r s h1 h2 => ?_⟩⟩
  ·(conv=>whnf)
   refine C9 (enc:=eQ) (λ_=>rfl) rfl ql.symm ?_;(conv=>whnf)
   exact AX rfl (sN (y 0) 0)
  ·exact wq i r [s] h1 (AjC h2)
end Go.c9

namespace Go.c9
structure Pt where
 x:Rat
 y:Rat
 w:Rat
def Ak2 (g:List Pt) (f:Pt->Rat):Rat:=g.foldl (λ s p=>s+f p) 0
theorem gY (x:Rat):0<=x*x:=by
 rcases Rat.le_total (a:=0) (b:=x) with h|h
 ·exact Rat.mul_nonneg h h
 ·have:=Rat.mul_nonneg (show 0 <= -x by grind) (show 0 <= -x by grind)
  grind
def rhs (g:List Pt) (k:Nat):Rat:=Ak2 g λ p=>p.w*p.x^k*p.y
def Wh (k:Nat) (x:Rat):Prop := ∃ z:Int,x=(z:Rat)/\z.natAbs<=2^k
theorem Wh.le {k l:Nat} {x:Rat} (h:Wh k x) (hl:k<=l):Wh l x:=by
 obtain ⟨z,e,b⟩:=h;exact ⟨z,e,Nat.le_trans b (Nat.pow_le_pow_right (by omega) hl)⟩
theorem Wh.mul {k l:Nat} {x y:Rat} (hx:Wh k x) (hy:Wh l y):Wh (k+l) (x*y):=by
 obtain ⟨z,rfl,b⟩:=hx;obtain ⟨u,rfl,c⟩:=hy;exact ⟨z*u,by rw[Rat.intCast_mul],by rw[Int.natAbs_mul,Nat.pow_add];exact Nat.mul_le_mul b c⟩
theorem Wh.add {k:Nat} {x y:Rat} (hx:Wh k x) (hy:Wh k y):Wh (k+1) (x+y):=by
 obtain ⟨z,rfl,b⟩:=hx;obtain ⟨u,rfl,c⟩:=hy;refine ⟨z+u,by rw[Rat.intCast_add],?_⟩;rw[Nat.pow_succ];have:=Int.natAbs_add_le z u
 omega
theorem Wh.neg {k:Nat} {x:Rat} (hx:Wh k x):Wh k (-x):=by
 obtain ⟨z,rfl,b⟩:=hx;exact ⟨-z,by rw[Rat.intCast_neg],by rw[Int.natAbs_neg];exact b⟩
theorem Wh.sub {k:Nat} {x y:Rat} (hx:Wh k x) (hy:Wh k y):Wh (k+1) (x-y):=by
 rw[Rat.sub_eq_add_neg];exact hx.add hy.neg
theorem Wh.zero (k:Nat):Wh k 0:=⟨0,rfl,Nat.zero_le _⟩
theorem Wh.bt {k:Nat} {x:Rat} (h:Wh k x):Bt k x:=by
 obtain ⟨z,rfl,b⟩:=h;exact Bt.ofInt b
theorem Wh.dot {k l:Nat} : ∀ {a b:List Rat},(∀ x∈a,Wh k x)->(∀ x∈b,Wh l x)->Wh (k+l+a.length) (A0 a b)
 | [],b,_,_=>by cases b<;>exact Wh.zero _
 | x::a,[],_,_=>Wh.zero _
 | x::a,y::b,ha,hb=>by
  rw[A0,List.length_cons,<-Nat.add_assoc];exact (((ha x List.mem_cons_self).mul (hb y List.mem_cons_self)).le (by omega)).add (Wh.dot (λ z hz=>ha z (List.mem_cons_of_mem _ hz)) λ z hz=>hb z (List.mem_cons_of_mem _ hz))
theorem VP (y:Rat):y*(y.den:Rat)=(y.num:Rat):=by
 have h:=Rat.num_divInt_den y;rw[Rat.divInt_eq_div]at h;have h0:((y.den:Int):Rat)≠0:=λ e=>by
  have:((y.den:Int):Rat)=((0:Int):Rat):=e
  have:=Rat.intCast_inj.1 this
  have:=y.den_pos
  omega
 have h2:=Rat.div_mul_cancel h0 (a:=(y.num:Rat));rw[h,Rat.intCast_natCast]at h2;exact h2
theorem dQ {y:Rat} {T:Nat} {z:Int} (h:(T:Rat)*y=(z:Rat)):y.den ∣ T:=by
 have h1:y*(y.den:Rat)=(y.num:Rat):=VP y;have h2:(((T:Int)*y.num:Int):Rat)=((z*(y.den:Int):Int):Rat):=by
  rw[Rat.intCast_mul,Rat.intCast_mul,<-h1,<-h,Rat.intCast_natCast,Rat.intCast_natCast,Rat.mul_assoc]
 have h3:=Rat.intCast_inj.1 h2;have h4:(y.den:Int) ∣ (T:Int)*y.num:=⟨z,by rw[h3,Int.mul_comm]⟩;have h5:y.den ∣ T*y.num.natAbs:=by
  have:=Int.natAbs_dvd_natAbs.2 h4
  simpa [Int.natAbs_mul] using this
 exact Nat.Coprime.dvd_of_dvd_mul_right (Nat.Coprime.symm y.reduced) h5
theorem Akt {S M:Nat} {x:Rat} (hS:S ∣ M) (hM : ∃ z:Int,(M:Rat)*x=(z:Rat)) : ∃ S':Nat,TJ (S:Rat) x=(S':Rat)/\S' ∣ M/\S ∣ S' /\ ∃ z:Int,(S':Rat)*x=(z:Rat):=by
 obtain ⟨T,rfl⟩:=hS;obtain ⟨z,hz⟩:=hM;have h1:((S:Rat)*x).den ∣ T:=dQ (z:=z) (by rw[<-hz,Rat.natCast_mul];grind);have h2:((S:Rat)*x)*((((S:Rat)*x).den:Nat):Rat)=(((S:Rat)*x).num:Rat):=VP _;generalize ((S:Rat)*x).num=u at h2;refine ⟨S*((S:Rat)*x).den,?_,Nat.mul_dvd_mul_left S h1,Nat.dvd_mul_right _ _,u,?_⟩
 ·rw[TJ,Rat.natCast_mul]
 ·rw[Rat.natCast_mul];grind
theorem Qk {M:Nat} : ∀ (l:List Rat) (S:Nat),S ∣ M->(∀ x∈l,∃ z:Int,(M:Rat)*x=(z:Rat)) -> ∃ S':Nat,l.foldl TJ (S:Rat)=(S':Rat)/\S' ∣ M/\S ∣ S' /\ ∀ x∈l,∃ z:Int,(S':Rat)*x=(z:Rat)
 | [],S,hS,_=>⟨S,rfl,hS,Nat.dvd_refl S,λ x hx=>by cases hx⟩
 | x::l,S,hS,h=>by
  obtain ⟨S1,e1,d1,d2,z,hz⟩:=Akt hS (h x List.mem_cons_self);obtain ⟨S2,e2,d3,d4,h2⟩:=Qk l S1 d1 λ y hy=>h y (List.mem_cons_of_mem _ hy)
  refine ⟨S2,by rw[List.foldl_cons,e1,e2],d3,Nat.dvd_trans d2 d4,λ y hy => ?_⟩;rcases List.mem_cons.1 hy with rfl|hy
  ·obtain ⟨k,rfl⟩:=d4
   exact ⟨z*(k:Int),by rw[Rat.natCast_mul,Rat.intCast_mul,<-hz,Rat.intCast_natCast];grind⟩
  ·exact h2 y hy
theorem Akw {M:Nat} {l:List Rat} (h : ∀ x∈l,∃ z:Int,(M:Rat)*x=(z:Rat)) : ∃ S:Nat,C1 l=(S:Rat)/\S ∣ M /\ ∀ x∈l,∃ z:Int,x*C1 l=(z:Rat):=by
 obtain ⟨S,e,d,_,h2⟩:=Qk l 1 (Nat.one_dvd M) h;refine ⟨S,e,d,λ x hx => ?_⟩;obtain ⟨z,hz⟩:=h2 x hx;exact ⟨z,by rw[Rat.mul_comm,<-hz];congr 1⟩
theorem zO (now:List Rat) : ∀ (a:List (List Rat)) (b:List Rat),a.length=b.length->JT now 0 a b=D5 a now
 | [],[],_=>rfl
 | r::a,y::b,h=>by
  show (A0 r now+y*0)::JT now 0 a b=A0 r now::D5 a now;rw[zO now a b (by simpa using h),Rat.mul_zero,Rat.add_zero]
theorem zL (n:Nat) : ∀ (a:List (List Rat)) (b:List Rat),a.length=b.length->JT (List.replicate n 0) 1 a b=b
 | [],[],_=>rfl
 | r::a,y::b,h=>by
  show (A0 r (List.replicate n 0)+y*1)::JT (List.replicate n 0) 1 a b=y::b;rw[zL n a b (by simpa using h),VE,Rat.mul_one,Rat.zero_add]
theorem Rc {S:CU} (h:S.a.length=S.b.length) : ∀ (m j:Nat),S.outs (wQ S j) (List.replicate m 0)=(List.range m).map λ i=>A0 S.c (wQ S (j+i))
 | 0,_=>rfl
 | m+1,j=>by
  have e:S.next (wQ S j) 0=wQ S (j+1):=zO _ _ _ h
  rw[List.replicate_succ];show (A0 S.c (wQ S j)+S.d*0)::S.outs (S.next (wQ S j) 0) (List.replicate m 0)=_;rw[e,Rc h m (j+1),Rat.mul_zero,Rat.add_zero,List.range_succ_eq_map,List.map_cons,List.map_map];congr 1;refine List.map_congr_left λ i _ => ?_
  simp only[Function.comp];rw[show j+1+i=j+(i+1) by omega]
def hQ (S:CU):Nat->Rat
 | 0=>S.d
 | j+1=>A0 S.c (wQ S j)
theorem xR {S:CU} {n m j:Nat} (h:S.a.length=S.b.length) (hj:j<m):(S.outs (List.replicate n 0) (GG m))[j]? = some (hQ S j):=by
 cases m with
 | zero=>omega
 | succ m =>
  show ((A0 S.c (List.replicate n 0)+S.d*1)::S.outs (S.next (List.replicate n 0) 1) (List.replicate m 0))[j]? = _;have e:S.next (List.replicate n 0) 1=wQ S 0:=zL n _ _ h
  rw[e,Rc h m 0,VE,Rat.mul_one,Rat.zero_add];cases j with
  | zero=>rfl
  | succ j =>
   rw[List.getElem?_cons_succ,List.getElem?_map,List.getElem?_range (by omega),Option.map_some,Nat.zero_add];rfl
theorem Alc {r:List Rat} (h:TP r=r) (hn:r.length≠0):r.getD (r.length-1) 0≠0:=by
 have hl:=Rz r;rw[h]at hl;obtain ⟨n,ry⟩ : ∃ n,r.length=n+1:=⟨r.length-1,by omega⟩;rw[ry,H7]at hl;rw[ry,Nat.add_sub_cancel];intro h0;rw[if_pos h0]at hl;have:=ZX r n
 omega
def FJ (B A:List Rat) (n:Nat):CU where
 a:=(List.range n).map λ i=>if i=0 then (List.range n).map λ k => -(A.getD (k+1) 0) else E5 n ((i-1:Nat):Int)
 b:=E5 n 0
 c:=(List.range n).map λ i=>B.getD (i+1) 0-B.getD 0 0*A.getD (i+1) 0
 d:=B.getD 0 0
def C3 (x:Rat):Rat:=if x.num<0 then -x else x
end Go.c9
