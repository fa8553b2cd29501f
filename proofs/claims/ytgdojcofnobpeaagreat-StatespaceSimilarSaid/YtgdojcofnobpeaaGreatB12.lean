/-
  The inverse of a matrix by the reduced echelon form of the matrix beside the identity, plain.
-/
import Derived.Test.YtgdojcofnobpeaaGreatB11
import Derived.Test.YtgdojcofnobpeaaGreatB10
import Derived.Test.YtgdojcofnobpeaaGreatB1
import Derived.Test.YtgdojcofnobpeaaGreatB4
import Derived.Test.YtgdojcofnobpeaaGreatB5
set_option linter.unusedSimpArgs false
set_option linter.unusedVariables false
set_option linter.unnecessarySimpa false
namespace Go.Eng
def cmb (f:Rat) (r t:List Rat):List Rat:=List.zipWith (λ x y=>x-f*y) r t
theorem lH {f:Rat} {r t:List Rat} (h:r.length=t.length):(cmb f r t).length=r.length:=by simp [cmb,h]
theorem uI {f:Rat} {r t:List Rat} {j:Nat} {x y:Rat} (hx:r[j]? = some x) (hy:t[j]? = some y):(cmb f r t)[j]? = some (x-f*y):=by
 simp [cmb,List.getElem?_zipWith,hx,hy]
theorem uK {f:Rat} : ∀ {r t:List Rat} {z:Rat},z∈cmb f r t -> ∃ x∈r,∃ y∈t,z=x-f*y
 | [],_,z,h=>by simp [cmb]at h
 | _::_,[],z,h=>by simp [cmb]at h
 | x::r,y::t,z,h=>by
  simp only[cmb,List.zipWith_cons_cons,List.mem_cons]at h;rcases h with rfl|h
  ·exact ⟨x,by simp,y,by simp,rfl⟩
  ·obtain ⟨a,ha,b,jt,e⟩:=uK h
   exact ⟨a,by simp [ha],b,by simp [jt],e⟩
theorem lG (f:Rat) : ∀ (r t X:List Rat),r.length=t.length->CK (cmb f r t) X=CK r X-f*CK t X
 | [],[],X,_=>by
  show CK [] X=_;simp only[CK];grind
 | x::r,y::t,[],_=>by
  simp only[cmb,List.zipWith_cons_cons,CK];grind
 | x::r,y::t,z::X,h=>by
  have ih:=lG f r t X (by simpa using h);simp only[cmb]at ih;simp only[cmb,List.zipWith_cons_cons,CK,ih];grind
theorem uJ {f:Rat} {r t:List Rat} (h:r.length=t.length) (j:Nat):(cmb f r t).getD j 0=r.getD j 0-f*t.getD j 0:=by
 rw[List.getD_eq_getElem?_getD,List.getD_eq_getElem?_getD,List.getD_eq_getElem?_getD];cases hx:r[j]? with
 | none =>
  have h1:=List.getElem?_eq_none_iff.1 hx;rw[List.getElem?_eq_none (by rw[lH h];exact h1),List.getElem?_eq_none (l:=t) (by omega)];show (0:Rat)=0-f*0;grind
 | some x =>
  have h1:=(zS hx).1;obtain ⟨y,hy⟩ : ∃ y,t[j]? = some y:=⟨_,zE (by omega)⟩;rw[uI hx hy,hy];rfl
theorem vQ (l:List Rat) (p:Rat) (j:Nat):(l.map (· / p)).getD j 0=l.getD j 0/p:=by
 rw[List.getD_eq_getElem?_getD,List.getD_eq_getElem?_getD,List.getElem?_map];cases l[j]? with
 | none=>show (0:Rat)=0/p;rw[Rat.div_def,Rat.zero_mul]
 | some x=>rfl
theorem lS (p:Rat) : ∀ (r X:List Rat),CK (r.map (· / p)) X=CK r X/p
 | [],X=>by
  show CK [] X=CK [] X/p;simp only[CK,Rat.div_def];grind
 | x::r,[]=>by simp only[List.map_cons,CK,Rat.div_def];grind
 | x::r,z::X=>by
  have ih:=lS p r X;simp only[Rat.div_def]at ih;simp only[List.map_cons,CK,ih,Rat.div_def];grind
theorem bT {n i:Nat} {v:List Rat} (hv:v.length=n) (hi:i<n):CK (FV n i) v=v.getD i 0:=by
 have e:=congrArg (λ l=>l.getD i 0) (XW hv);simp only[CO,FJ,List.map_map]at e;rw[V6,if_pos hi]at e;exact e
def nZ (T:List (List Rat)) (v:List Rat):List Rat:=v++(CO T v).map (-1 * ·)
structure H8 (T:List (List Rat)) (n:Nat) (m:List (List Rat)) (k c:Nat):Prop where
 len:m.length=n
 wid : ∀ r∈m,r.length=n+n
 ker : ∀ v:List Rat,v.length=n->HW m (nZ T v)
 kr : ∀ w:List Rat,HW m w->HW (E1 T (FJ n)) w
 le:k<=c
 cn:c<=n
 ech:k=c -> ∀ (i:Nat) (r:List Rat),m[i]? = some r -> ∀ j,j<c->r.getD j 0=if i=j then 1 else 0
 sk:k<c -> ¬ NS n T
theorem H8.start {T:List (List Rat)} {n:Nat} (hT:Sq n T):H8 T n (E1 T (FJ n)) 0 0:=by
 have hat : ∀ (i:Nat) (r:List Rat),(E1 T (FJ n))[i]? = some r -> ∃ t,T[i]? = some t/\i<n/\r=t++FV n i:=λ i r h=>by
  rw[E1,List.getElem?_zipWith]at h;cases ht:T[i]? with
  | none=>rw[ht]at h;cases h
  | some t =>
   have h1:=(zS ht).1;rw[hT.l]at h1;rw[ht,FJ,List.getElem?_map,List.getElem?_range h1]at h;exact ⟨t,rfl,h1,(Option.some.inj h).symm⟩
 refine ⟨?_,?_,?_,λ_ h=>h,Nat.le_refl _,Nat.zero_le _,λ_ _ _ _ j h=>absurd h (by omega),λ h=>absurd h (by omega)⟩
 ·rw[E1,List.length_zipWith,hT.l];simp [FJ]
 ·intro r hr
  obtain ⟨i,hi⟩:=List.getElem?_of_mem hr;obtain ⟨t,h1,_,rfl⟩:=hat i r hi;rw[List.length_append,hT.at h1,TD]
 ·intro v hv r hr
  obtain ⟨i,hi⟩:=List.getElem?_of_mem hr;obtain ⟨t,h1,h2,rfl⟩:=hat i r hi;rw[nZ,UW _ _ _ _ (by rw[hT.at h1,hv]),I9 (FV n i),bQ,I9 _ (FV n i),bT (by rw[K7];exact hT.l) h2];rw[CO,List.getD_eq_getElem?_getD,List.getElem?_map,h1];show CK t v + -1*CK t v=0;grind
theorem H8.ns {T:List (List Rat)} {n c:Nat} {m:List (List Rat)} (h:H8 T n m c c) (hT:Sq n T) (hc:c<n) (hz : ∀ (q:Nat) (r:List Rat),c<=q->m[q]? = some r->r.getD c 0=0) : ¬ NS n T:=by
 intro hns;have hml:=h.len;have hxl:((m.take c).map λ r => -1*r.getD c 0).length=c:=by rw[List.length_map,List.length_take];omega
 have Bo : ∀ (i:Nat) (r:List Rat),i<c->m[i]? = some r->((m.take c).map λ r => -1*r.getD c 0).getD i 0 = -1*r.getD c 0:=λ i r hi hr=>by
  rw[List.getD_eq_getElem?_getD,List.getElem?_map,List.getElem?_take,if_pos hi,hr];rfl
 generalize ((m.take c).map λ r => -1*r.getD c 0)=x at *;have hvl:(x++1::List.replicate (n-c-1) (0:Rat)).length=n:=by simp [hxl];omega
 have hK:HW m ((x++1::List.replicate (n-c-1) (0:Rat))++List.replicate n 0):=by
  intro r hr;obtain ⟨i,hi⟩:=List.getElem?_of_mem hr;have hil:=(zS hi).1;have hrl:=h.wid r hr;have e1:r=(r.take c++r.getD c 0::(r.drop (c+1)).take (n-c-1))++r.drop n:=by
   have e3:r.take n=r.take c++r.getD c 0::(r.drop (c+1)).take (n-c-1):=by
    have e4:(r.drop c).take (n-c)=r.getD c 0::(r.drop (c+1)).take (n-c-1):=by
     rw[List.drop_eq_getElem_cons (show c<r.length by omega),show n-c=(n-c-1)+1 by omega,List.take_succ_cons,List.getD_eq_getElem?_getD,zE (by omega)];simp
    rw[<-e4,<-List.take_add,show c+(n-c)=n by omega]
   rw[<-e3,List.take_append_drop]
  rw[e1,UW _ _ _ _ (by simp [hxl];omega),bS,UW _ _ _ _ (by rw[List.length_take,hxl];omega),CK,bS];by_cases Iz:i<c
  ·have e2:r.take c=FV c i:=by
    refine List.ext_getElem? λ j => ?_
    by_cases hj:j<c
    ·obtain ⟨y,hy⟩ : ∃ y,r[j]? = some y:=⟨_,zE (by omega)⟩
     have h3:=h.ech rfl i r hi j hj;rw[List.getD_eq_getElem?_getD,hy]at h3;rw[List.getElem?_take,if_pos hj,hy,FV,List.getElem?_map,List.getElem?_range hj];show some y=some (if (j:Int)=(i:Int) then (1:Rat) else 0);rw[show y=(if i=j then 1 else 0:Rat) from h3];by_cases h5:i=j
     ·rw[if_pos h5,if_pos (by omega)]
     ·rw[if_neg h5,if_neg (by omega)]
    ·rw[List.getElem?_eq_none (by rw[List.length_take];omega),List.getElem?_eq_none (by rw[TD];omega)]
   rw[e2,bT hxl Iz,Bo i r Iz hi];grind
  ·have e2:r.take c=List.replicate c 0:=by
    refine List.ext_getElem? λ j => ?_
    by_cases hj:j<c
    ·obtain ⟨y,hy⟩ : ∃ y,r[j]? = some y:=⟨_,zE (by omega)⟩
     have h3:=h.ech rfl i r hi j hj;rw[List.getD_eq_getElem?_getD,hy,if_neg (by omega)]at h3;rw[List.getElem?_take,if_pos hj,hy,List.getElem?_replicate,if_pos hj];exact congrArg some h3
    ·rw[List.getElem?_eq_none (by rw[List.length_take];omega),List.getElem?_eq_none (by simp;omega)]
   rw[e2,ZJ,hz i r (by omega) hi];grind
 have hK0:=h.kr _ hK;have hKT:HW T (x++1::List.replicate (n-c-1) (0:Rat)):=by
  intro t ht;obtain ⟨i,hi⟩:=List.getElem?_of_mem ht;have hil:=(zS hi).1;rw[hT.l]at hil;have h1:=hK0 (t++FV n i) (zM (i:=i) (by
   rw[E1,List.getElem?_zipWith,hi,FJ,List.getElem?_map,List.getElem?_range hil];rfl))
  rw[UW _ _ _ _ (by rw[hT.at hi,hvl]),bS,Rat.add_zero]at h1;exact h1
 have h1:=hns _ hvl hKT c;rw[List.getD_eq_getElem?_getD,List.getElem?_append_right (by omega),hxl,Nat.sub_self]at h1;exact absurd (show (1:Rat)=0 from h1) (by decide)
theorem H8.skip {T:List (List Rat)} {n k c:Nat} {m:List (List Rat)} (h:H8 T n m k c) (hT:Sq n T) (hc:c<n) (hz : ∀ (q:Nat) (r:List Rat),k<=q->m[q]? = some r->r.getD c 0=0):H8 T n m k (c+1):=by
 refine ⟨h.len,h.wid,h.ker,h.kr,Nat.le_succ_of_le h.le,hc,λ e=>absurd h.le (by omega),λ_ => ?_⟩;by_cases e:k<c
 ·exact h.sk e
 ·have hle:=h.le
  obtain rfl:k=c:=by omega
  exact h.ns hT hc hz
theorem H8.swap {T:List (List Rat)} {n k c i:Nat} {m:List (List Rat)} {r t:List Rat} (h:H8 T n m k c) (hi:m[i]? = some r) (hk:m[k]? = some t) (hki:k<=i):H8 T n ((m.set i t).set k r) k c:=by
 have hil:=(zS hi).1;have hkl:=(zS hk).1;have hat : ∀ (q:Nat) (x:List Rat),((m.set i t).set k r)[q]? = some x->(q=k/\x=r)\/(q≠k/\q=i/\x=t)\/(q≠k/\q≠i/\m[q]? = some x):=λ q x hx=>by
  rw[List.getElem?_set,List.getElem?_set,List.length_set]at hx;by_cases e1:k=q
  ·rw[if_pos e1,if_pos (by omega)]at hx
   exact Or.inl ⟨e1.symm,(Option.some.inj hx).symm⟩
  ·rw[if_neg e1]at hx
   by_cases e2:i=q
   ·rw[if_pos e2,if_pos (by omega)]at hx
    exact Or.inr (Or.inl ⟨Ne.symm e1,e2.symm,(Option.some.inj hx).symm⟩)
   ·rw[if_neg e2]at hx
    exact Or.inr (Or.inr ⟨Ne.symm e1,Ne.symm e2,hx⟩)
 have jx : ∀ x,x∈(m.set i t).set k r->x∈m:=λ x hx=>by
  obtain ⟨q,hq⟩:=List.getElem?_of_mem hx;rcases hat q x hq with ⟨_,rfl⟩|⟨_,_,rfl⟩|⟨_,_,h3⟩
  ·exact zM hi
  ·exact zM hk
  ·exact zM h3
 refine ⟨by rw[List.length_set,List.length_set];exact h.len,λ x hx=>h.wid x (jx x hx),λ v hv x hx=>h.ker v hv x (jx x hx),λ w hw=>h.kr w λ x hx => ?_,h.le,h.cn,?_,h.sk⟩
 ·obtain ⟨q,hq⟩:=List.getElem?_of_mem hx
  have w8:CK r w=0:=hw r (zM (i:=k) (by rw[List.getElem?_set,if_pos rfl,if_pos (by rw[List.length_set];exact hkl)]));by_cases e1:q=i
  ·subst e1
   cases hi.symm.trans hq;exact w8
  ·by_cases e2:q=k
   ·subst e2
    cases hk.symm.trans hq;exact hw t (zM (i:=i) (by rw[List.getElem?_set,if_neg (Ne.symm (Ne.symm e1)),List.getElem?_set,if_pos rfl,if_pos hil]))
   ·exact hw x (zM (i:=q) (by rw[List.getElem?_set,if_neg (Ne.symm e2),List.getElem?_set,if_neg (Ne.symm e1)];exact hq))
 intro e q x hx j hj;rcases hat q x hx with ⟨e1,rfl⟩|⟨_,e2,rfl⟩|⟨_,_,h3⟩
 ·rw[if_neg (by omega),h.ech e i x hi j hj,if_neg (by omega)]
 ·rw[if_neg (by omega),h.ech e k x hk j hj,if_neg (by omega)]
 ·exact h.ech e q x h3 j hj
theorem H8.scale {T:List (List Rat)} {n k c:Nat} {m:List (List Rat)} {t:List Rat} (p:Rat) (h:H8 T n m k c) (hk:m[k]? = some t) (hp:p≠0):H8 T n (m.set k (t.map (· / p))) k c:=by
 refine ⟨by rw[List.length_set];exact h.len,?_,?_,λ w hw=>h.kr w λ x hx => ?_,h.le,h.cn,?_,h.sk⟩
 ·intro x hx
  rcases T8 hx with rfl|⟨j,_,hj⟩
  ·rw[List.length_map];exact h.wid t (zM hk)
  ·exact h.wid x (zM hj)
 ·intro v hv x hx
  rcases T8 hx with rfl|⟨j,_,hj⟩
  ·rw[lS,h.ker v hv t (zM hk),Rat.div_def,Rat.zero_mul]
  ·exact h.ker v hv x (zM hj)
 ·obtain ⟨q,hq⟩:=List.getElem?_of_mem hx
  have hkl:=(zS hk).1;by_cases e:q=k
  ·subst e
   cases hk.symm.trans hq;have h1:=hw (t.map (· / p)) (zM (i:=q) (by rw[List.getElem?_set,if_pos rfl,if_pos hkl]));rw[lS]at h1;have h2:CK t w=CK t w/p*p:=by rw[Rat.div_def,Rat.mul_assoc,Rat.inv_mul_cancel _ hp,Rat.mul_one]
   rw[h2,h1,Rat.zero_mul]
  ·exact hw x (zM (i:=q) (by rw[List.getElem?_set,if_neg (Ne.symm e)];exact hq))
 ·intro e q x hx j hj
  rw[List.getElem?_set]at hx;by_cases e1:k=q
  ·rw[if_pos e1]at hx
   split at hx
   ·obtain rfl:=Option.some.inj hx
    rw[vQ,h.ech e k t hk j hj,if_neg (by omega),if_neg (by omega),Rat.div_def,Rat.zero_mul]
   ·cases hx
  ·rw[if_neg e1]at hx
   exact h.ech e q x hx j hj
structure NU (T:List (List Rat)) (n K:Nat) (k c:Nat) (t:List Rat) (m:List (List Rat)) (i:Nat):Prop where
 red:H8 T n m k c
 ht:m[k]? = some t
 one:t.getD c 0=1
 dn : ∀ (q:Nat) (r:List Rat),q<i->q≠k->m[q]? = some r->r.getD c 0=0
 lo : ∀ (q:Nat) (r:List Rat),q<i->m[q]? = some r->Bs (4*K+1) r
 hi : ∀ (q:Nat) (r:List Rat),i<=q->q≠k->m[q]? = some r->Bs K r
 bt:Bs (2*K) t
theorem NU.start {T:List (List Rat)} {n K k c:Nat} {m:List (List Rat)} {t:List Rat} (h:H8 T n m k c) (hk:m[k]? = some t) (hp:t.getD c 0≠0) (hM : ∀ (q:Nat) (r:List Rat),m[q]? = some r->Bs K r):NU T n K k c (t.map (· / t.getD c 0)) (m.set k (t.map (· / t.getD c 0))) 0:=by
 have hkl:=(zS hk).1;have htb:=hM k t hk;refine ⟨h.scale _ hk hp,by rw[List.getElem?_set,if_pos rfl,if_pos hkl],by rw[vQ,Rat.div_def,Rat.mul_inv_cancel _ hp],λ q r h1=>absurd h1 (by omega),λ q r h1=>absurd h1 (by omega),λ q r _ h2 hq => ?_,λ y hy => ?_⟩
 ·rw[List.getElem?_set,if_neg (Ne.symm h2)]at hq
  exact hM q r hq
 ·obtain ⟨z,hz,rfl⟩:=List.mem_map.1 hy
  exact ((htb z hz).divL (Bs.getD htb c)).le (by omega)
theorem NU.same {T:List (List Rat)} {n K k c i:Nat} {m:List (List Rat)} {t:List Rat} (h:NU T n K k c t m i) (hz:i≠k -> ∀ r,m[i]? = some r->r.getD c 0=0):NU T n K k c t m (i+1):=by
 refine ⟨h.red,h.ht,h.one,λ q r h1 h2 hq => ?_,λ q r h1 hq => ?_,λ q r h1=>h.hi q r (by omega),h.bt⟩
 ·by_cases e:q=i
  ·subst e;exact hz h2 r hq
  ·exact h.dn q r (by omega) h2 hq
 ·by_cases e:q=i
  ·by_cases e2:q=k
   ·subst e2
    cases h.ht.symm.trans hq;exact λ y hy=>(h.bt y hy).le (by omega)
   ·exact λ y hy=>(h.hi q r (by omega) e2 hq y hy).le (by omega)
  ·exact h.lo q r (by omega) hq
theorem NU.step {T:List (List Rat)} {n K k c i:Nat} {m:List (List Rat)} {t r:List Rat} (h:NU T n K k c t m i) (hi:m[i]? = some r) (hik:i≠k):NU T n K k c t (m.set i (cmb (r.getD c 0) r t)) (i+1):=by
 have hil:=(zS hi).1;have hrl:=h.red.wid r (zM hi);have htl:=h.red.wid t (zM h.ht);have wg:r.length=t.length:=by omega
 have hat : ∀ (q:Nat) (x:List Rat),(m.set i (cmb (r.getD c 0) r t))[q]? = some x->(q=i/\x=cmb (r.getD c 0) r t)\/(q≠i/\m[q]? = some x):=λ q x hx=>by
  rw[List.getElem?_set]at hx;by_cases e:i=q
  ·rw[if_pos e,if_pos (by omega)]at hx
   exact Or.inl ⟨e.symm,(Option.some.inj hx).symm⟩
  ·rw[if_neg e]at hx
   exact Or.inr ⟨Ne.symm e,hx⟩
 refine ⟨⟨by rw[List.length_set];exact h.red.len,?_,?_,λ w hw=>h.red.kr w λ x hx => ?_,h.red.le,h.red.cn,?_,h.red.sk⟩,by rw[List.getElem?_set,if_neg hik];exact h.ht,h.one,?_,?_,?_,h.bt⟩
 ·intro x hx
  obtain ⟨q,hq⟩:=List.getElem?_of_mem hx;rcases hat q x hq with ⟨_,rfl⟩|⟨_,h2⟩
  ·rw[lH wg];exact hrl
  ·exact h.red.wid x (zM h2)
 ·intro v hv x hx
  obtain ⟨q,hq⟩:=List.getElem?_of_mem hx;rcases hat q x hq with ⟨_,rfl⟩|⟨_,h2⟩
  ·rw[lG _ _ _ _ wg,h.red.ker v hv r (zM hi),h.red.ker v hv t (zM h.ht)]
   grind
  ·exact h.red.ker v hv x (zM h2)
 ·obtain ⟨q,hq⟩:=List.getElem?_of_mem hx
  have ht0:CK t w=0:=hw t (zM (i:=k) (by rw[List.getElem?_set,if_neg hik];exact h.ht));by_cases e:q=i
  ·subst e
   cases hi.symm.trans hq;have h1:=hw _ (zM (i:=q) (by rw[List.getElem?_set,if_pos rfl,if_pos hil]));rw[lG _ _ _ _ wg,ht0]at h1;grind
  ·exact hw x (zM (i:=q) (by rw[List.getElem?_set,if_neg (Ne.symm e)];exact hq))
 ·intro e q x hx j hj
  rcases hat q x hx with ⟨e1,rfl⟩|⟨_,h2⟩
  ·rw[uJ wg,h.red.ech e i r hi j hj,h.red.ech e k t h.ht j hj,e1,if_neg (show ¬ k=j by omega)]
   grind
  ·exact h.red.ech e q x h2 j hj
 ·intro q x h1 h2 hx
  rcases hat q x hx with ⟨e1,rfl⟩|⟨e1,h3⟩
  ·rw[uJ wg,h.one];grind
  ·exact h.dn q x (by omega) h2 h3
 ·intro q x h1 hx
  rcases hat q x hx with ⟨e1,rfl⟩|⟨e1,h3⟩
  ·intro y hy
   obtain ⟨a,ha,b,jt,rfl⟩:=uK hy;have uo:=h.hi i r (Nat.le_refl _) hik hi;exact ((uo a ha).subL ((Bs.getD uo c).mul (h.bt b jt))).le (by omega)
  ·exact h.lo q x (by omega) h3
 ·intro q x h1 h2 hx
  rcases hat q x hx with ⟨e1,rfl⟩|⟨e1,h3⟩
  ·omega
  ·exact h.hi q x (by omega) h2 h3
theorem NU.fin {T:List (List Rat)} {n K k c:Nat} {m:List (List Rat)} {t:List Rat} (h:NU T n K k c t m n) (hc:c<n):H8 T n m (k+1) (c+1) /\ ∀ (q:Nat) (r:List Rat),m[q]? = some r->Bs (4*K+1) r:=by
 have l6 : ∀ (q:Nat) (r:List Rat),m[q]? = some r->q<n:=λ q r hq=>by
  have:=(zS hq).1
  rw[h.red.len]at this;exact this
 refine ⟨⟨h.red.len,h.red.wid,h.red.ker,h.red.kr,Nat.succ_le_succ h.red.le,hc,λ e q r hq j hj => ?_,λ Aoi=>h.red.sk (by omega)⟩,λ q r hq=>h.lo q r (l6 q r hq) hq⟩;have e2:k=c:=by omega
 by_cases e3:j=c
 ·by_cases e4:q=k
  ·subst e4
   cases h.ht.symm.trans hq;rw[e3,h.one,if_pos e2]
  ·rw[e3,h.dn q r (l6 q r hq) e4 hq,if_neg (by omega)]
 ·exact h.red.ech e2 q r hq j (by omega)
theorem H8.inv {T:List (List Rat)} {n:Nat} {m:List (List Rat)} (h:H8 T n m n n) {v:List Rat} (hv:v.length=n) (hT:T.length=n):CO (m.map (·.drop n)) (CO T v)=v:=by
 refine List.ext_getElem? λ i => ?_
 rw[CO,List.getElem?_map,List.getElem?_map];cases hi:m[i]? with
 | none =>
  have h1:=List.getElem?_eq_none_iff.1 hi;rw[List.getElem?_eq_none (l:=v) (by rw[hv,<-h.len];exact h1)];rfl
 | some r =>
  have h1:=(zS hi).1;rw[h.len]at h1;have hrl:=h.wid r (zM hi);obtain ⟨x,hx⟩ : ∃ x,v[i]? = some x:=⟨_,zE (by omega)⟩;have h2:=h.ker v hv r (zM hi);have e:r.take n=FV n i:=by
   refine List.ext_getElem? λ j => ?_
   by_cases hj:j<n
   ·obtain ⟨y,hy⟩ : ∃ y,r[j]? = some y:=⟨_,zE (by omega)⟩
    have h3:=h.ech rfl i r hi j hj;rw[List.getD_eq_getElem?_getD,hy]at h3;rw[List.getElem?_take,if_pos hj,hy,FV,List.getElem?_map,List.getElem?_range hj];show some y=some _;rw[show y=(if i=j then 1 else 0:Rat) from h3];show some (if i=j then (1:Rat) else 0)=some (if (j:Int)=(i:Int) then (1:Rat) else 0);by_cases h5:i=j
    ·rw[if_pos h5,if_pos (by omega)]
    ·rw[if_neg h5,if_neg (by omega)]
   ·rw[List.getElem?_eq_none (by rw[List.length_take];omega),List.getElem?_eq_none (by rw[TD];omega)]
  rw[<-List.take_append_drop n r,nZ,UW _ _ _ _ (by rw[List.length_take,hv];omega),e,bT hv h1,I9 (r.drop n),bQ,I9 _ (r.drop n),List.getD_eq_getElem?_getD,hx]at h2;rw[hx];show some (CK (r.drop n) (CO T v))=some x;have h3:x + -1*CK (r.drop n) (CO T v)=0:=h2;congr 1;grind
end Go.Eng


namespace Go.Eng
open F
attribute [local irreducible] AH BJ B1 BD E6 CF CI CY CU DX B5 DT EN GS DS CR DR EF AR CW BW pw DC DB EP EV E7 FM EZ D5 FE
variable {L:Lib}
set_option maxHeartbeats 8000000
set_option maxRecDepth 8000
theorem Alb {S:GU} {n:Nat} (h:S.Ok n 80) (hn:n<=4):Bs 250000000 (OM S n)/\Bs 510000000 (ON S n):=by
 have oa:Sq n S.a:=⟨h.la,h.lr⟩;have ju:Bs 250000000 (GC S.a n n):=by
  intro x hx;simp only[GC,List.mem_cons,List.mem_map,List.mem_range]at hx;rcases hx with rfl|⟨j,hj,rfl⟩
  ·exact Bt.one _
  ·have zk:=yN j (by omega)
   exact (Ms.fl oa h.ba hn j (by omega)).2.2.le (by omega)
 have qj:Bs 250000000 (IJ S n n):=by
  intro x hx;simp only[IJ,List.mem_cons,List.mem_map,List.mem_range]at hx;rcases hx with rfl|⟨j,hj,rfl⟩
  ·exact Bt.zero _
  ·have zk:=yN j (by omega)
   have ln:Bs (4*(XP j+81)) (CO (FS S.a n j) S.b):=by
    intro x hx;obtain ⟨r,hr,rfl⟩:=List.mem_map.1 hx;refine (((Ms.fl oa h.ba hn j (by omega)).1 r hr).dot h.bb).le ?_;rw[(Sq.fl h.la j).r r hr];exact Nat.mul_le_mul hn (by omega)
   refine (h.bc.dot ln).le ?_;rw[h.lc];have:=Nat.mul_le_mul_right (80+4*(XP j+81)+1) hn
   generalize hX:80+4*(XP j+81)+1=X at this ⊢;omega
 have Al:Bs 250000080 ((GC S.a n n).map (· * S.d)):=by
  intro y hy;obtain ⟨x,hx,rfl⟩:=List.mem_map.1 hy;exact ((ju x hx).mul h.bd).le (by omega)
 refine ⟨ju.trim,Bs.trim ?_⟩;intro z hz;obtain ⟨i,hi⟩:=List.getElem?_of_mem hz;have h1:=(zS hi).1;rw[kO]at h1;rw[kN h1]at hi;obtain rfl:=Option.some.inj hi;exact ((N4 qj i).add (N4 Al.trim i)).le (by omega)
theorem Alc (S:GU) (n:Nat):(OM S n).length<=n+1/\(ON S n).length<=n+1:=by
 have h1:=aC (GC S.a n n);have h2:=UT (GC S.a n n) (GC S.a n n).length;have h3:=fE S.a n n;have h4:=aC (KZ (IJ S n n) (GM ((GC S.a n n).map (· * S.d))));have h5:=UT (KZ (IJ S n n) (GM ((GC S.a n n).map (· * S.d)))) (KZ (IJ S n n) (GM ((GC S.a n n).map (· * S.d)))).length;have h6:=kO (IJ S n n) (GM ((GC S.a n n).map (· * S.d)));have h7:=fA S n n;unfold OM ON;omega
end Go.Eng

namespace Go.Eng
set_option maxHeartbeats 4000000
def IG (T U:List (List Rat)) (S:GU) (n:Nat):GU:=⟨EA (EA T S.a n) U n,CO T S.b,CO (KE U) S.c,S.d⟩
theorem Gt {U:List (List Rat)} {n:Nat} (hU:Sq n U) (c:List Rat):CO (KE U) c=HZ c U n:=by
 rw[CO,KE,List.map_map,hU.l,HZ];exact List.map_congr_left λ j _=>I9 _ _
theorem Ajm {T U:List (List Rat)} {n:Nat} (hn:n<=2) (hT:Sq n T) (hU:Sq n U) (hb:Ms 4 T) (hUT : ∀ v:List Rat,v.length=n->CO U (CO T v)=v):Ms 21 U:=by
 obtain rfl|rfl|rfl:n=0\/n=1\/n=2:=by omega
 ·have:=hU.l
  rw[List.length_eq_zero_iff]at this;subst this;intro r hr;cases hr
 ·obtain ⟨tl,tr⟩:=hT
  obtain ⟨ul,ur⟩:=hU;match T,tl with
  | [t],_ =>
   have h1:=tr t (by simp);match t,h1 with
   | [x],_ =>
    match U,ul with
    | [u],_ =>
     have h2:=ur u (by simp);match u,h2 with
     | [y],_ =>
      have h:=hUT [1] rfl;simp only[CO,List.map_cons,List.map_nil,CK,List.cons.injEq,and_true]at h;have hx:Bt 4 x:=hb [x] (by simp) x (by simp);have h0:x≠0:=λ e=>by rw[e]at h;grind
      have e:y=x⁻¹:=by grind
      intro r hr;obtain rfl:=List.mem_singleton.1 hr;intro z hz;obtain rfl:=List.mem_singleton.1 hz;rw[e];exact hx.xa.le (by omega)
 ·obtain ⟨tl,tr⟩:=hT
  obtain ⟨ul,ur⟩:=hU;match T,tl with
  | [t,s],_ =>
   have h1:=tr t (by simp);have h2:=tr s (by simp);match t,s,h1,h2 with
   | [a,b],[c,d],_,_ =>
    match U,ul with
    | [u,v],_ =>
     have h3:=ur u (by simp);have h4:=ur v (by simp);match u,v,h3,h4 with
     | [p,q],[r,s],_,_ =>
      have g1:=hUT [1,0] rfl;have g2:=hUT [0,1] rfl;simp only[CO,List.map_cons,List.map_nil,CK,List.cons.injEq,and_true]at g1 g2;obtain ⟨e1,e2⟩:=g1;obtain ⟨e3,e4⟩:=g2;have ha:Bt 4 a:=hb [a,b] (by simp) a (by simp);have hbb:Bt 4 b:=hb [a,b] (by simp) b (by simp);have hcc:Bt 4 c:=hb [c,d] (by simp) c (by simp);have hd:Bt 4 d:=hb [c,d] (by simp) d (by simp);have f1:p*a+q*c=1:=by grind
      have f2:r*a+s*c=0:=by grind
      have f3:p*b+q*d=0:=by grind
      have f4:r*b+s*d=1:=by grind
      clear e1 e2 e3 e4 hUT;have k1:p*(a*d-b*c)=d:=by grind
      have k2:q*(a*d-b*c) = -b:=by grind
      have k3:r*(a*d-b*c) = -c:=by grind
      have k4:s*(a*d-b*c)=a:=by grind
      have hD:Bt 17 (a*d-b*c):=(ha.mul hd).subL (hbb.mul hcc);have h0:a*d-b*c≠0:=λ e=>by
       rw[e,Rat.mul_zero]at k1 k2 k3 k4;have:a=0:=k4.symm
       have:c=0:=by grind
       grind
      have key : ∀ x y:Rat,x*(a*d-b*c)=y->x=y/(a*d-b*c):=λ x y h=>by
       rw[<-h,Rat.div_def,Rat.mul_assoc,Rat.mul_inv_cancel _ h0,Rat.mul_one]
      intro w hw;simp only[List.mem_cons,List.not_mem_nil,or_false]at hw;rcases hw with rfl|rfl
      ·intro z hz
       simp only[List.mem_cons,List.not_mem_nil,or_false]at hz;rcases hz with rfl|rfl
       ·rw[key _ _ k1];exact hd.divL hD
       ·rw[key _ _ k2];exact (Bt.negL hbb).divL hD
      ·intro z hz
       simp only[List.mem_cons,List.not_mem_nil,or_false]at hz;rcases hz with rfl|rfl
       ·rw[key _ _ k3];exact (Bt.negL hcc).divL hD
       ·rw[key _ _ k4];exact ha.divL hD
theorem Gr {U:List (List Rat)} {k:Nat} (h:Ms k U):Ms k (KE U):=λ r hr=>by
 obtain ⟨i,_,rfl⟩:=List.mem_map.1 hr;exact h.zh i
theorem Gu {U:List (List Rat)} {n:Nat} (h:Sq n U):Sq n (KE U):=⟨by rw[rD,h.l],λ r hr=>by
 obtain ⟨i,_,rfl⟩:=List.mem_map.1 hr;rw[bL,h.l]⟩
theorem Hu (f g:Nat->Rat) : ∀ n,EU (λ i=>f i+g i) n=EU f n+EU g n
 | 0=>by simp only[EU];grind
 | n+1=>by
  have:=Hu f g n
  simp only[EU]at this ⊢;rw[this];grind
theorem Hw (f:Nat->Nat->Rat) (m:Nat) : ∀ n,EU (λ i=>EU (λ j=>f i j) m) n=EU (λ j=>EU (λ i=>f i j) n) m
 | 0=>by
  rw[EU];exact (YO m λ j _=>rfl).symm
 | n+1=>by
  have e:(λ j=>EU (λ i=>f i j) (n+1))=λ j=>EU (λ i=>f i j) n+f n j:=rfl
  rw[e,Hu,<-Hw f m n];rfl
theorem qZ (m:List (List Rat)) : ∀ i,LZ m i=EU (λ r=>(m.getD r []).getD r 0) i
 | 0=>rfl
 | i+1=>by rw[LZ,qZ m i];rfl
theorem nN {m:List (List Rat)} {i:Nat} {r:List Rat} (h:m[i]? = some r):m.getD i []=r:=by
 rw[List.getD_eq_getElem?_getD,h];rfl
theorem Cs {A B:List (List Rat)} {n i j:Nat} (hA:Sq n A) (hB:Sq n B) (hi:i<n) (hj:j<n):((EA A B n).getD i []).getD j 0=EU (λ k=>(A.getD i []).getD k 0*(B.getD k []).getD j 0) n:=by
 obtain ⟨r,hr⟩ : ∃ r,A[i]? = some r:=⟨_,zE (by rw[hA.l];exact hi)⟩;have h1:(EA A B n)[i]? = some (HZ r B n):=by rw[EA,List.getElem?_map,hr];rfl
 rw[nN h1,nN hr,List.getD_eq_getElem?_getD,HZ,List.getElem?_map,List.getElem?_range hj];show CK r (EB B j)=_;rw[UX r (EB B j) n (by rw[hA.at hr];exact Nat.le_refl _)];refine WN n λ k hk => ?_
 obtain ⟨s,hs⟩ : ∃ s,B[k]? = some s:=⟨_,zE (by rw[hB.l];exact hk)⟩;rw[nN hs,List.getD_eq_getElem?_getD (l:=EB B j),EB,List.getElem?_map,hs];rfl
theorem Alk {A B:List (List Rat)} {n:Nat} (hA:Sq n A) (hB:Sq n B):LZ (EA A B n) n=LZ (EA B A n) n:=by
 rw[qZ,qZ,WN n (λ i hi=>Cs hA hB hi hi),WN n (λ i hi=>Cs hB hA hi hi),Hw];exact WN n λ i _=>WN n λ j _=>Rat.mul_comm _ _
theorem oG {A B:List (List Rat)} {n:Nat} (hA:Sq n A) (hB:Sq n B) (h : ∀ v:List Rat,v.length=n->CO A v=CO B v):A=B:=by
 refine List.ext_getElem? λ i => ?_
 by_cases hi:i<n
 ·obtain ⟨r,hr⟩ : ∃ r,A[i]? = some r:=⟨_,zE (by rw[hA.l];exact hi)⟩
  obtain ⟨s,hs⟩ : ∃ s,B[i]? = some s:=⟨_,zE (by rw[hB.l];exact hi)⟩;rw[hr,hs];have hrl:=hA.at hr;have hsl:=hB.at hs;congr 1;refine List.ext_getElem? λ j => ?_
  by_cases hj:j<n
  ·have e:=congrArg (λ l:List Rat=>l[i]?) (h (FV n j) (TD _ _))
   simp only[CO,List.getElem?_map,hr,hs,Option.map_some,Option.some.injEq]at e;rw[I9,bT hrl hj,I9,bT hsl hj]at e;rw[zE (by omega),zE (by omega)];rw[List.getD_eq_getElem?_getD,List.getD_eq_getElem?_getD,zE (by omega),zE (by omega)]at e;exact congrArg some e
  ·rw[List.getElem?_eq_none (by omega),List.getElem?_eq_none (by omega)]
 ·rw[List.getElem?_eq_none (by rw[hA.l];omega),List.getElem?_eq_none (by rw[hB.l];omega)]
theorem All {X Y T U:List (List Rat)} {n:Nat} (hX:Sq n X) (hY:Sq n Y) (hT:Sq n T) (hU:Sq n U) (hUT : ∀ v:List Rat,v.length=n->CO U (CO T v)=v) (hTU : ∀ v:List Rat,v.length=n->CO T (CO U v)=v) (h : ∀ v:List Rat,v.length=n->CO Y (CO T v)=CO T (CO X v)):LZ Y n=LZ X n:=by
 have e1:Y=EA T (EA X U n) n:=oG hY (Sq.mul hT.l _) λ v hv=>by
  have hl:(CO U v).length=n:=by rw[K7,hU.l]
  rw[MC _ _ _ (Sq.mul hX.l U).r,MC _ _ _ hU.r,<-h _ hl,hTU v hv]
 have e2:EA (EA X U n) T n=X:=oG (Sq.mul (Sq.mul hX.l U).l _) hX λ v hv=>by
  rw[MC _ _ _ hT.r,MC _ _ _ hU.r,hUT v hv]
 rw[e1,Alk hT (Sq.mul hX.l U),e2]
theorem uR {A B T U:List (List Rat)} {n:Nat} (hA:Sq n A) (hB:Sq n B) (hT:Sq n T) (hU:Sq n U) (hUT : ∀ v:List Rat,v.length=n->CO U (CO T v)=v) (hTU : ∀ v:List Rat,v.length=n->CO T (CO U v)=v) (h : ∀ v:List Rat,v.length=n->CO B (CO T v)=CO T (CO A v)) (k:Nat) (h1 : ∀ v:List Rat,v.length=n->CO (FS B n k) (CO T v)=CO T (CO (FS A n k) v)):L3 B n k=L3 A n k:=by
 rw[L3,L3,ZG,ZG,All (Sq.mul hA.l (FS A n k)) (Sq.mul hB.l (FS B n k)) hT hU hUT hTU λ v hv => ?_];have hl2:(CO (FS A n k) v).length=n:=by rw[K7,(Sq.fl hA.l k).l]
 rw[MC _ _ _ (Sq.fl hB.l k).r,MC _ _ _ (Sq.fl hA.l k).r,h1 v hv,h _ hl2]
theorem sV {α:Type} (f g:α->Rat) : ∀ l:List α,NW (l.map f) (l.map g)=l.map λ e=>f e+g e
 | []=>rfl
 | e::l=>by
  have:=sV f g l
  simp only[NW]at this;simp only[List.map_cons,NW,List.zipWith_cons_cons,this]
theorem Zd {n:Nat} {m:List (List Rat)} (a b:List Rat) (c:Rat) (ha:a.length=n) (hb:b.length=n):NW (CO m a) ((CO m b).map (c * ·))=CO m (NW a (b.map (c * ·))):=by
 rw[CO,CO,CO,List.map_map,sV];refine List.map_congr_left λ r _ => ?_
 rw[lU (by rw[List.length_map,ha,hb]),I9 r (b.map _),bQ,I9 b r];rfl
theorem yP {A B T U:List (List Rat)} {n:Nat} (hA:Sq n A) (hB:Sq n B) (hT:Sq n T) (hU:Sq n U) (hUT : ∀ v:List Rat,v.length=n->CO U (CO T v)=v) (hTU : ∀ v:List Rat,v.length=n->CO T (CO U v)=v) (h : ∀ v:List Rat,v.length=n->CO B (CO T v)=CO T (CO A v)) :
  ∀ k,(∀ v:List Rat,v.length=n->CO (FS B n k) (CO T v)=CO T (CO (FS A n k) v))/\L3 B n k=L3 A n k
 | 0=>by
  have h1 : ∀ v:List Rat,v.length=n->CO (FS B n 0) (CO T v)=CO T (CO (FS A n 0) v):=λ v hv=>by
   rw[FS,FS,XW hv,XW (by rw[K7,hT.l])]
  exact ⟨h1,uR hA hB hT hU hUT hTU h 0 h1⟩
 | k+1=>by
  obtain ⟨h1,h2⟩:=yP hA hB hT hU hUT hTU h k;have h3 : ∀ v:List Rat,v.length=n->CO (FS B n (k+1)) (CO T v)=CO T (CO (FS A n (k+1)) v):=λ v hv=>by
   have hl:(CO T v).length=n:=by rw[K7,hT.l]
   have hl2:(CO (FS A n k) v).length=n:=by rw[K7,(Sq.fl hA.l k).l]
   have hc:ZG (EA B (FS B n k) n) n (k+1)=ZG (EA A (FS A n k) n) n (k+1):=h2;rw[FS,FS,Ct (Sq.mul hB.l _) _ _ hl,Ct (Sq.mul hA.l _) _ _ hv,MC _ _ _ (Sq.fl hB.l k).r,MC _ _ _ (Sq.fl hA.l k).r,h1 v hv,h _ hl2,hc];exact Zd (n:=n) _ _ _ (by rw[K7,hA.l]) hv
  exact ⟨h3,uR hA hB hT hU hUT hTU h (k+1) h3⟩
theorem Ald {T U:List (List Rat)} {S:GU} {n k:Nat} (hS:S.Ok n k) (hT:Sq n T) (hU:Sq n U) (hUT : ∀ v:List Rat,v.length=n->CO U (CO T v)=v) (hTU : ∀ v:List Rat,v.length=n->CO T (CO U v)=v):OM (IG T U S n) n=OM S n/\ON (IG T U S n) n=ON S n:=by
 have hA:Sq n S.a:=⟨hS.la,hS.lr⟩;have hB:Sq n (IG T U S n).a:=Sq.mul (Sq.mul hT.l S.a).l U;have h : ∀ v:List Rat,v.length=n->CO (IG T U S n).a (CO T v)=CO T (CO S.a v):=λ v hv=>by
  show CO (EA (EA T S.a n) U n) (CO T v)=_;rw[MC _ _ _ hU.r,hUT v hv,MC _ _ _ hS.lr]
 have key:=yP hA hB hT hU hUT hTU h;have e1:GC (IG T U S n).a n n=GC S.a n n:=by
  rw[GC,GC];exact congrArg _ (List.map_congr_left λ j _=>(key j).2)
 have e2:IJ (IG T U S n) n n=IJ S n n:=by
  rw[IJ,IJ];refine congrArg _ (List.map_congr_left λ j _ => ?_);show CK (CO (KE U) S.c) (CO (FS (IG T U S n).a n j) (CO T S.b))=_;rw[(key j).1 _ hS.lb,Gt hU,lV U S.c hU.r,hUT _ (by rw[K7,(Sq.fl hA.l j).l])]
 exact ⟨by rw[OM,OM,e1],by rw[ON,ON,e1,e2];rfl⟩
theorem pM {a b c d e f g h i p q r x y z:Rat} (e1:p*a+q*d+r*g=x) (e2:p*b+q*e+r*h=y) (e3:p*c+q*f+r*i=z) :
  p*(a*(e*i-f*h)-b*(d*i-f*g)+c*(d*h-e*g))=x*(e*i-f*h)+y*(f*g-d*i)+z*(d*h-e*g) /\
  q*(a*(e*i-f*h)-b*(d*i-f*g)+c*(d*h-e*g))=x*(c*h-b*i)+y*(a*i-c*g)+z*(b*g-a*h) /\
  r*(a*(e*i-f*h)-b*(d*i-f*g)+c*(d*h-e*g))=x*(b*f-c*e)+y*(c*d-a*f)+z*(a*e-b*d):=by
 subst e1 e2 e3;refine ⟨by grind,by grind,by grind⟩
theorem Qk (a b c d e f g h i p q r s t u v w x:Rat) :
  (p*a+q*d+r*g)*((s*b+t*e+u*h)*(v*c+w*f+x*i)-(s*c+t*f+u*i)*(v*b+w*e+x*h))-(p*b+q*e+r*h)*((s*a+t*d+u*g)*(v*c+w*f+x*i)-(s*c+t*f+u*i)*(v*a+w*d+x*g))+(p*c+q*f+r*i)*((s*a+t*d+u*g)*(v*b+w*e+x*h)-(s*b+t*e+u*h)*(v*a+w*d+x*g))
  = (p*(t*x-u*w)-q*(s*x-u*v)+r*(s*w-t*v))*(a*(e*i-f*h)-b*(d*i-f*g)+c*(d*h-e*g)):=by grind
theorem Ajn {T U:List (List Rat)} (hT:Sq 3 T) (hU:Sq 3 U) (hb:Ms 4 T) (hUT : ∀ v:List Rat,v.length=3->CO U (CO T v)=v):Ms 82 U:=by
 obtain ⟨tl,tr⟩:=hT;obtain ⟨ul,ur⟩:=hU;match T,tl with
 | [t1,t2,t3],_ =>
  have l1:=tr t1 (by simp);have l2:=tr t2 (by simp);have l3:=tr t3 (by simp);match t1,t2,t3,l1,l2,l3 with
  | [a,b,c],[d,e,f],[g,h,i],_,_,_ =>
   match U,ul with
   | [u1,u2,u3],_ =>
    have m1:=ur u1 (by simp);have m2:=ur u2 (by simp);have m3:=ur u3 (by simp);match u1,u2,u3,m1,m2,m3 with
    | [p,q,r],[s,t,u],[v,w,x],_,_,_ =>
     have g1:=hUT [1,0,0] rfl;have g2:=hUT [0,1,0] rfl;have g3:=hUT [0,0,1] rfl;simp only[CO,List.map_cons,List.map_nil,CK,List.cons.injEq,and_true]at g1 g2 g3;obtain ⟨a1,a2,a3⟩:=g1;obtain ⟨b1,b2,b3⟩:=g2;obtain ⟨c1,c2,c3⟩:=g3;have ha:Bt 4 a:=hb [a,b,c] (by simp) a (by simp);have hbb:Bt 4 b:=hb [a,b,c] (by simp) b (by simp);have hcc:Bt 4 c:=hb [a,b,c] (by simp) c (by simp);have hd:Bt 4 d:=hb [d,e,f] (by simp) d (by simp);have nm:Bt 4 e:=hb [d,e,f] (by simp) e (by simp);have oy:Bt 4 f:=hb [d,e,f] (by simp) f (by simp);have hg:Bt 4 g:=hb [g,h,i] (by simp) g (by simp);have hh:Bt 4 h:=hb [g,h,i] (by simp) h (by simp);have hi:Bt 4 i:=hb [g,h,i] (by simp) i (by simp);have p1:p*a+q*d+r*g=1:=by grind
     have p2:p*b+q*e+r*h=0:=by grind
     have p3:p*c+q*f+r*i=0:=by grind
     have q1:s*a+t*d+u*g=0:=by grind
     have q2:s*b+t*e+u*h=1:=by grind
     have q3:s*c+t*f+u*i=0:=by grind
     have r1:v*a+w*d+x*g=0:=by grind
     have r2:v*b+w*e+x*h=0:=by grind
     have r3:v*c+w*f+x*i=1:=by grind
     clear a1 a2 a3 b1 b2 b3 c1 c2 c3 hUT;have zy:=Qk a b c d e f g h i p q r s t u v w x;rw[p1,p2,p3,q1,q2,q3,r1,r2,r3]at zy;obtain ⟨j1,j2,j3⟩:=pM p1 p2 p3;obtain ⟨j4,j5,j6⟩:=pM q1 q2 q3;obtain ⟨j7,j8,j9⟩:=pM r1 r2 r3;have mn : ∀ {x1 x2 x3 x4:Rat},Bt 4 x1->Bt 4 x2->Bt 4 x3->Bt 4 x4->Bt 17 (x1*x2-x3*x4):=λ h1 h2 h3 h4=>(h1.mul h2).subL (h3.mul h4)
     have hD:Bt 65 (a*(e*i-f*h)-b*(d*i-f*g)+c*(d*h-e*g)):=((ha.mul (mn nm hi oy hh)).subL (hbb.mul (mn hd hi oy hg))).add (hcc.mul (mn hd hh nm hg));generalize a*(e*i-f*h)-b*(d*i-f*g)+c*(d*h-e*g)=D at *;have h0:D≠0:=λ e0=>by
      rw[e0,Rat.mul_zero]at zy;grind
     have key : ∀ {x m:Rat},x*D=m->Bt 17 m->Bt 82 x:=λ{x m} h1 h2=>by
      have e:x=m/D:=by rw[<-h1,Rat.div_def,Rat.mul_assoc,Rat.mul_inv_cancel _ h0,Rat.mul_one]
      rw[e];exact h2.divL hD
     clear p1 p2 p3 q1 q2 q3 r1 r2 r3 zy;simp only[Rat.one_mul,Rat.zero_mul,Rat.add_zero,Rat.zero_add]at j1 j2 j3 j4 j5 j6 j7 j8 j9;have k1:=key j1 (mn nm hi oy hh);have k2:=key j2 (mn hcc hh hbb hi);have k3:=key j3 (mn hbb oy hcc nm);have k4:=key j4 (mn oy hg hd hi);have k5:=key j5 (mn ha hi hcc hg);have k6:=key j6 (mn hcc hd ha oy);have k7:=key j7 (mn hd hh nm hg);have k8:=key j8 (mn hbb hg ha hh);have k9:=key j9 (mn ha nm hbb hd);intro y hy;simp only[List.mem_cons,List.not_mem_nil,or_false]at hy;rcases hy with rfl|rfl|rfl
     all_goals
      intro z hz;simp only[List.mem_cons,List.not_mem_nil,or_false]at hz;rcases hz with rfl|rfl|rfl
      all_goals assumption
theorem nX {T U:List (List Rat)} {n:Nat} (hn:n<=3) (hT:Sq n T) (hU:Sq n U) (hb:Ms 4 T) (hUT : ∀ v:List Rat,v.length=n->CO U (CO T v)=v):Ms 82 U:=by
 by_cases h:n=3
 ·subst h;exact Ajn hT hU hb hUT
 ·exact (Ajm (by omega) hT hU hb hUT).le (by omega)
theorem Cw {m:List (List Rat)} {b:List Rat} {n k l:Nat} (hs:Sq n m) (hm:Ms k m) (hb:Bs l b) (hn:n<=3):Bs (3*(k+l+1)) (CO m b):=λ x hx=>by
 obtain ⟨r,hr,rfl⟩:=List.mem_map.1 hx;refine ((hm r hr).dot hb).le ?_;rw[hs.r r hr];exact Nat.mul_le_mul_right _ hn
theorem qB {T U:List (List Rat)} {S:GU} {n:Nat} (hS:S.Ok n 4) (hT:Sq n T) (hU:Sq n U) (hb:Ms 4 T) (hUb:Ms 82 U) (hn:n<=3):(IG T U S n).Ok n 400/\Ms 27 (EA T S.a n):=by
 have h1:Ms 27 (EA T S.a n):=(Ms.mul hb hT hS.ba).le (by omega);have s1:Sq n (EA T S.a n):=Sq.mul hT.l _;have s2:Sq n (IG T U S n).a:=Sq.mul s1.l _;refine ⟨⟨s2.l,s2.r,by show (CO T S.b).length=n;rw[K7,hT.l],by show (CO (KE U) S.c).length=n;rw[K7,rD,hU.l],?_,?_,?_,hS.bd.le (by omega)⟩,h1⟩
 ·exact (Ms.mul h1 s1 hUb).le (show n*(27+82+1)<=400 by omega)
 ·exact (Cw hT hb hS.bb hn).le (by omega)
 ·exact (Cw (Gu hU) (Gr hUb) hS.bc hn).le (by omega)
theorem Ajr {T U V:List (List Rat)} {n:Nat} (hT:Sq n T) (hU:Sq n U) (hV:Sq n V) (hUT : ∀ v:List Rat,v.length=n->CO U (CO T v)=v) (hTV : ∀ v:List Rat,v.length=n->CO T (CO V v)=v):U=V:=oG hU hV λ v hv=>by
 have h1:=hUT (CO V v) (by rw[K7,hV.l]);rw[hTV v hv]at h1;exact h1
end Go.Eng

namespace Go.Eng
open F
attribute [local irreducible] AH BJ B1 BD E6 CF CI CY CU DX B5 DT EN GS DS CR DR EF AR CW BW pw DC DB EP EV E7 FM EZ D5 FE
variable {L:Lib}
set_option maxHeartbeats 16000000
def mD:Option (List Rat)->List AV
 | none=>[.nil]
 | some r=>[.sl false (r.map eQ)]
def VB (y:Nat->List Rat) (n w:Nat):List (List Rat):=(List.range n).map λ i:Nat=>(List.range w).map λ c=>(y c).getD i 0
theorem Yk {n:Nat} {l:List (List Rat)} (h:l.length=n):(fz none (l.map some) n).map mD=eM l:=by
 rw[gX (by simpa using h),List.map_map];rfl
theorem Hj {m0 m:List (List Rat)} {K n W c:Nat} {P:List Nat} {odd:Bool} {l:Rat} (hE:JW m0 K W n m P c odd l) (hP:P.length=n) (hml:m.length=n):ZB (UP m) n:=by
 have hc:c=n:=by have:=hE.ech.le;have:=hE.cc;omega
 subst hc;exact hE.ech.tri λ i hi=>by
  obtain ⟨q,hq⟩ : ∃ q,P[i]? = some q:=⟨_,zE (by omega)⟩;rw[hq,hE.ech.diag hP i q hq]
theorem AkT {m0 m a b:List (List Rat)} {K n w c:Nat} {P:List Nat} {odd:Bool} {l:Rat} (hE:JW m0 K (n+w) n m P c odd l) (hs:aT m0 (E1 a b)) (hl:a.length=b.length) (haw : ∀ r∈a,r.length=n) (hbw : ∀ r∈b,r.length=w) (hP:P.length=n) (hml:m.length=n) :
  ∀ c',c'<w -> ∀ (i:Nat) (r s:List Rat),a[i]? = some r->b[i]? = some s->CK r ((HK (n+c') l m 0).map (· / l))=s.getD c' 0:=by
 intro c' hc' i r s hr hs';have ht:=Hj hE hP hml;have hlen:=hE.ech.lr;refine Rr (λ X=>(hE.ker X).trans (hs.ker X)) hl haw hbw hc' (by rw[List.length_map,UQ];exact hml) hlen (λ x hx => ?_) hr hs';have h1:=Nj (c:=n+c') (l:=l) (λ r hr=>by rw[hlen r hr];omega) hml ht x hx;have hyl:((HK (n+c') l m 0).map (· * l⁻¹)).length=n:=by rw[List.length_map,UQ];exact hml
 rw[show ((HK (n+c') l m 0).map (· / l))=(HK (n+c') l m 0).map (· * l⁻¹) from List.map_congr_left λ z _=>Rat.div_def z l,I9,<-XF hyl,List.take_take,Nat.min_self,XF hyl,ZI,I9,h1,Rat.mul_assoc,Rat.mul_inv_cancel _ hE.l0,Rat.mul_one]
theorem AkV (N:MatGLib L) (q q1 q2 q3:Bool) (a0 b0:List (List Rat)) (a:List (List Rat)) (n WW k:Nat) {K:Nat} (hal:a.length=n) (haw : ∀ r∈a,r.length=WW) (hn:1<=n/\n<=52) (hW:WW<=104) (hab:Ms k a) (hsb0 : ∀ r∈a,∀ j,Bt K (C4 (r.take j))) (hkK:k<=K) (hKB:K<=1000000000000) {kk:List It} {Q:Tm->Mem->Prop}
  (hfin:AH L kk ([(5,.row 231019 0 3 0 n),(4,.row 231016 0 1 0 n)]++[(1000+43,.row 22 0 1 0 n),(1000+26,.bool false),(1000+25,.int .i64 n),(1000+24,.int .i64 n),(1000+7,.row 22 0 1 0 n),(1000+6,.int .i64 n),(1000+0,.sl q (E8 q1 a0)),(1000+(0+1),.sl q2 (E8 q3 b0))]) ([(231016,231016,.mx (C7 3 eQ (whole a))),(231019,231019,.rw 3 ((a.map C4).map eQ))]++[(22,22,.rw 1 (eM a))]) Q) :
  AH L (.lp J9.l1 :: .blk 0::kk) ([(22,.int .i64 0),(21,.int .i64 n),(20,.row 22 0 1 0 n),(5,.row 231019 0 3 0 n),(4,.row 231016 0 1 0 n)]++[(1000+43,.row 22 0 1 0 n),(1000+26,.bool false),(1000+25,.int .i64 n),(1000+24,.int .i64 n),(1000+7,.row 22 0 1 0 n),(1000+6,.int .i64 n),(1000+0,.sl q (E8 q1 a0)),(1000+(0+1),.sl q2 (E8 q3 b0))]) ([(231016,231016,.mx (List.replicate n none)),(231019,231019,.rw 3 ((List.replicate n none).map eO))]++[(22,22,.rw 1 (eM a))]) Q:=by
 have hI:=LK N.toa5 1 (by omega);refine VP (l:=[_,_]) rfl ?_;refine DG (λ i=>n-i) (λ(i:Nat)=>i<=n) (λ i=>[(22,.int .i64 i)]) (λ i=>[(231016,231016,.mx (mz (whole a) n i)),(231019,231019,.rw 3 ((FR ((a.map C4).take i) n).map eO))]) [] [] 0 (by first|exact (by (conv=>whnf);exact ⟨rfl,rfl,rfl⟩)|(rw[<-X0 (whole a),List.take_zero,<-KO];exact (by (conv=>whnf);exact ⟨rfl,rfl,rfl⟩))) (by omega) ?_;intro i p1 ih;have hzl:=XY (Q:=whole a) p1;by_cases hi:i<n
 ·obtain ⟨r,hr⟩ : ∃ r,a[i]? = some r:=⟨_,zE (by omega)⟩
  have hr':a[(i:Int).toNat]? = some r:=hr;have hrl:=haw r (zM hr);have hrb:=hab.at hr;have hst:=XZ (Q:=whole a) (i:=i) (n:=n) (row:=r.map (· * C4 r)) (by simp [whole,hr]) hi;have hsca:(a.map C4)[i]? = some (C4 r):=by simp [hr]
  generalize mz (whole a) n i=R0 at *;have hsb : ∀ j,Bt K (C4 (r.take j)):=hsb0 r (zM hr);have hscr:=hsb WW;rw[List.take_of_length_le (by omega)]at hscr;(repeat' ((first|(apply BR<;>intro hc<;>try (exfalso;omega))|(apply CE;omega)|apply CB|(refine HX ?_ (λ_=>rfl) (λ v hv => ?_);omega)|apply BA|refine BH (hI) ?_)<;>conv=>whnf))
  try cases hr.symm.trans hv
  refine I3 (λ j _=>WW-j) (λ(j:Nat) (s:Rat)=>j<=WW/\s=C4 (r.take j)) (λ j _=>[(30,.int .i64 j)]) (λ_ s=>[(231008,231008,.bx (eQ s))]) [] [] 0 ((1:Int):Rat) (by (conv=>whnf);exact ⟨rfl,rfl,rfl⟩) ⟨by omega,by rw[List.take_zero];rfl⟩ ?_;intro j s ⟨p2,p3⟩ jh;by_cases hj:j<WW
  ·obtain ⟨x,hx⟩ : ∃ x,r[j]? = some x:=⟨_,zE (by omega)⟩
   have hx':r[(j:Int).toNat]? = some x:=hx;have hsj:Bt K s:=by rw[p3];exact hsb j
   have bx:=hrb.at hx;have hM1:=K3 N.toa5 hsj bx (by omega) (by omega);have hM2:=mK N.toa5 true hsj (hsj.mul bx).2 (by omega) (by omega);have hnx:C4 (r.take (j+1))=s*(((s*x).den:Nat):Rat):=by rw[LC hx,pV,<-p3];rfl
   (repeat' ((first|(apply BR<;>intro hc<;>try (exfalso;omega))|(apply CG;omega)|(refine CX (by assumption) ?_ rfl ?_;omega)|refine KI rfl ?_|apply BA|refine BH (hM1) ?_|refine BH (hM2) ?_)<;>conv=>whnf))
   exact DE [] (by (conv=>whnf);exact ⟨rfl,rfl,rfl⟩) (jh (j+1) _ (by omega) ⟨by omega,hnx.symm⟩)
  have ej:j=WW:=by omega
  clear jh;rw[List.take_of_length_le (by omega)]at p3;subst p3;(repeat' ((first|(apply BR<;>intro hc<;>try (exfalso;omega))|apply CB|apply BA)<;>conv=>whnf))
  rw[hrl];refine GT (enc:=eO) none WW rfl (by omega) (by omega) ?_;(conv=>whnf)
  (repeat' ((first|(apply CE;omega)|fail)<;>conv=>whnf))
  refine CE (by simp) ?_;refine OO (i:=i) (by omega) (by omega) ?_;(conv=>whnf)
  (repeat' (apply CB<;>conv=>whnf))
  refine DG (λ j=>WW-j) (λ(j:Nat)=>j<=WW) (λ j=>[(53,.int .i64 j)]) (λ j=>[(231016,231016,.mx (R0.set i (some (3,(FR ((r.map (· * C4 r)).take j) WW).map eO))))]) [] [] 0 (by first|exact (by (conv=>whnf);exact ⟨rfl,rfl,rfl⟩)|(rw[List.take_zero,<-KO];exact (by (conv=>whnf);exact ⟨rfl,rfl,rfl⟩))) (by omega) ?_;intro j r2 jh;have htj:((r.map (· * C4 r)).take j).length=j:=by rw[List.length_take,List.length_map];omega
  have hlf:=JM (l:=(r.map (· * C4 r)).take j) (m:=WW) (by omega);by_cases hj:j<WW
  ·obtain ⟨x,hx⟩ : ∃ x,r[j]? = some x:=⟨_,zE (by omega)⟩
   have hx':r[(j:Int).toNat]? = some x:=hx;have bx:=hrb.at hx;have hM1:=K3 N.toa5 bx hscr (by omega) (by omega);have hs:=KP (l:=(r.map (· * C4 r)).take j) (m:=WW) (x:=x*C4 r) (by omega);rw[htj,<-LC (show (r.map (· * C4 r))[j]? = some (x*C4 r) by rw[List.getElem?_map,hx];rfl)]at hs;generalize FR ((r.map (· * C4 r)).take j) WW=W0 at *;(repeat' ((first|(apply BR<;>intro hc<;>try (exfalso;omega))|(apply CE;omega)|(refine CX (by assumption) ?_ rfl ?_;omega)|apply BA)<;>conv=>whnf))
   refine MM (by omega) (by omega) ?_;(conv=>whnf)
   (repeat' (refine BH (hM1) ?_<;>conv=>whnf))
   refine CE (by rw[List.length_map];omega) ?_;(conv=>whnf)
   skip
   refine L1 (by omega) (by omega) ?_;(conv=>whnf)
   refine G8 (enc:=eO) (some (x*C4 r)) rfl (λ e=>by cases e<;>rfl) (by omega) ?_;(conv=>whnf)
   rw[hs];refine VT (by omega) (by rw[List.length_map,List.length_map,<-hs,List.length_set]) ?_;(conv=>whnf)
   (repeat' ((first|(apply CG;omega)|fail)<;>conv=>whnf))
   exact C6 [] (jh (j+1) (by omega) (by omega))
  have ej:j=WW:=by omega
  clear jh;rw[List.take_of_length_le (by rw[List.length_map];omega),K4 (by rw[List.length_map];exact hrl),hst];have hti:((a.map C4).take i).length=i:=by rw[List.length_take,List.length_map];omega
  have hfi:=JM (l:=(a.map C4).take i) (m:=n) (by omega);have hfs:=KP (l:=(a.map C4).take i) (m:=n) (x:=C4 r) (by omega);rw[hti,<-LC hsca]at hfs;generalize FR ((a.map C4).take i) n=W1 at *;(repeat' ((first|(apply BR<;>intro hc<;>try (exfalso;omega))|(apply CE;omega)|apply BA)<;>conv=>whnf))
  refine G8 (enc:=eO) (some (C4 r)) rfl (λ e=>by cases e<;>rfl) (by omega) ?_;(conv=>whnf)
  rw[hfs];(repeat' ((first|(apply CG;omega)|fail)<;>conv=>whnf))
  exact C6 [] (ih (i+1) (by omega) (by omega))
 have ei:i=n:=by omega
 clear ih;rw[ei,XX (by simp [whole,hal]),List.take_of_length_le (by rw[List.length_map];omega),K4 (by rw[List.length_map];exact hal)];(repeat' ((first|(apply BR<;>intro hc<;>try (exfalso;omega))|apply BA)<;>conv=>whnf))
 exact DE [] (by (conv=>whnf);exact ⟨rfl,rfl,rfl⟩) hfin
theorem AkU (N:MatGLib L) (q2 q3:Bool) (b0 jm:List (List Rat)) {m0 m1:List (List Rat)} {n cw WW K0 c:Nat} {P:List Nat} {o:Bool} {l:Rat} {rp:List Rat} (sc:List Rat) (hm0l:m0.length=n) (hn:1<=n/\n<=52) (hW:cw<=WW) (hW2:WW<=104) (hK0:1<=K0) (hB:6^n*K0<=1000000000000) (hP:P.length<n) (hcn:c<cw) (hS:UM m0 K0 WW cw P c o l rp m1 (P.length+1)) {kk:List It} {Q:Tm->Mem->Prop}
  (hfin : ∀ m2,UM m0 K0 WW cw P c o l rp m2 n->AH L kk ([(9,.bool o),(8,.int .i64 c),(7,.int .i64 (P.length:Nat)),(10,.ptr 233010 0 0 0),(5,.ptr 233005 0 0 0),(0,.row 231016 0 1 0 n),(0+1,.int .i64 cw)]++[(1000+49,.int .i64 n),(1000+48,.row 231016 0 1 0 n),(1000+9,.row 231016 0 1 0 n),(1000+6,.int .i64 n),(1000+(0+1),.sl q2 (E8 q3 b0))]) ([(231016,231016,.mx (C7 3 eQ m2)),(233010,233010,.bx (eQ l)),(233005,233005,.bx [.bool false,.nil,.nil])]++[(22,22,.rw 1 (eM jm)),(231019,231019,.rw 3 (sc.map eQ))]) Q) :
  AH L (.lp N5.l4 :: .blk 6::kk) ([(12,.int .i64 ((P.length+1:Nat):Int)),(9,.bool o),(8,.int .i64 c),(7,.int .i64 (P.length:Nat)),(10,.ptr 233010 0 0 0),(5,.ptr 233005 0 0 0),(0,.row 231016 0 1 0 n),(0+1,.int .i64 cw)]++[(1000+49,.int .i64 n),(1000+48,.row 231016 0 1 0 n),(1000+9,.row 231016 0 1 0 n),(1000+6,.int .i64 n),(1000+(0+1),.sl q2 (E8 q3 b0))]) ([(231016,231016,.mx (C7 3 eQ m1)),(233010,233010,.bx (eQ l)),(233005,233005,.bx [.bool false,.nil,.nil])]++[(22,22,.rw 1 (eM jm)),(231019,231019,.rw 3 (sc.map eQ))]) Q:=by
 refine VP (l:=[_,_]) rfl ?_;refine I3 (λ_ i=>n-i) (λ(m:List (List Rat)) (i:Nat)=>UM m0 K0 WW cw P c o l rp m i/\P.length+1<=i/\i<=n) (λ_ i=>[(12,.int .i64 i)]) (λ m _=>[(231016,231016,.mx (C7 3 eQ m))]) [] [] m1 (P.length+1) (by (conv=>whnf);exact ⟨rfl,rfl,rfl⟩) ⟨hS,by omega,by omega⟩ ?_;clear hS;intro m2 i ⟨hS,j1,j2⟩ sh;have hml2:=hS.len;rw[hm0l]at hml2;by_cases hj:i<n
 ·obtain ⟨rq,hq0⟩ : ∃ r,m2[i]? = some r:=⟨_,zE (by omega)⟩
  have ht0':=hS.ht;have hrql:=hS.ech.lr rq (zM hq0);have htl:=hS.ech.lr rp (zM ht0');(repeat' ((first|(apply BR<;>intro hc<;>try (exfalso;omega))|(apply CE;omega)|(refine HJ ?_ (λ r hr => ?_);omega)|apply BA)<;>conv=>whnf))
  rename_i rA hrA;cases hq0.symm.trans hrA;cases ht0'.symm.trans hr;rw[show 0+((i:Nat):Int).toNat=i by omega,show 0+((P.length:Nat):Int).toNat=P.length by omega,show (List.map eQ rq).length=WW by rw[List.length_map];exact hrql,show (List.map eQ rp).length=WW by rw[List.length_map];exact htl];have hqc0:rq[c]? = some (rq.getD c 0):=OW (by omega);refine HI 1000 N.PF rfl rfl ?_;have hpc0:rp[c]? = some (rp.getD c 0):=OW (by omega);have hst2:=hS.step (by omega) hq0;have hcl:(comb (rp.getD c 0) (rq.getD c 0) l rq rp).length=WW:=by rw[uT (by omega)];exact hrql
  have hcg:=λ j=>lI (p:=rp.getD c 0) (f:=rq.getD c 0) (l:=l) (r:=rq) (t:=rp) (by omega) j
  have hz1:=λ j (h:j<c)=>hS.ech.zr i rq (by omega) hq0 j h
  have hz2:=λ j (h:j<c)=>hS.ech.zr P.length rp (Nat.le_refl _) ht0' j h
  have hbq:=hS.hi i rq (Nat.le_refl i) hq0;have hbp:=hS.bt;have hbl:=hS.bl;have hl0:=hS.l0;have hbpc:=hbp.at hpc0;have hbqc:=hbq.at hqc0;generalize hpv:rp.getD c 0=pv at *;generalize hfv:rq.getD c 0=fv at *;generalize hcb:comb pv fv l rq rp=cb at *;have hmix0:cb.take c++rq.drop c=rq:=AjN (by omega) λ j hj=>⟨by rw[hcg,hz1 j hj,hz2 j hj,Rat.zero_mul,Rat.zero_mul,Rat.sub_eq_add_neg,Rat.neg_zero,Rat.add_zero,Rat.div_def,Rat.zero_mul],hz1 j hj⟩
  have hRi:=PM (z:=3) hq0;have hRp:=PM (z:=3) ht0';have hRn:(C7 3 eQ m2).length=n:=by simp only[C7,List.length_map];omega
  have hRf:(C7 3 eQ m2).set i (some (3,cb.map eQ))=C7 3 eQ (m2.set i cb):=by simp only[C7,List.map_set]
  generalize C7 3 eQ m2=R2 at *;have hR0:R2.set i (some (3,rq.map eQ))=R2:=dJ hRi;(repeat' ((first|(apply CE;omega)|apply BA)<;>conv=>whnf))
  refine Y4 hRp ?_;(conv=>whnf)
  (repeat' ((first|(apply CE;omega)|(refine HX ?_ (λ_=>rfl) (λ v hv => ?_);omega))<;>conv=>whnf))
  cases hpc0.symm.trans hv;skip
  refine Y4 hRi ?_;(conv=>whnf)
  (repeat' ((first|(refine HX ?_ (λ_=>rfl) (λ v hv => ?_);omega)|fail)<;>conv=>whnf))
  cases hqc0.symm.trans hv;skip
  have hp7:=Nat.le_trans (Fk hK0 P.length) (oX hB (show P.length+1<=n by omega));generalize 6^P.length*K0=BB at *;refine DG (λ j=>WW-j) (λ(j:Nat)=>c<=j/\j<=WW) (λ j=>[(10,.int .i64 j)]) (λ j=>[(231016,231016,.mx (R2.set i (some (3,(cb.take j++rq.drop j).map eQ))))]) [] [] c (by first|exact (by (conv=>whnf);exact ⟨rfl,rfl,rfl⟩)|(rw[hmix0,hR0];exact (by (conv=>whnf);exact ⟨rfl,rfl,rfl⟩))) ⟨by omega,by omega⟩ ?_;intro j ⟨k1,k2⟩ jh;have hml:(cb.take j++rq.drop j).length=WW:=by rw[List.length_append,List.length_take,List.length_drop];omega
  by_cases hjn:j<WW
  ·obtain ⟨x,hx⟩ : ∃ x,rq[j]? = some x:=⟨_,zE (by omega)⟩
   obtain ⟨y,hy⟩ : ∃ y,rp[j]? = some y:=⟨_,zE (by omega)⟩;have hcj:cb[j]? = some ((x*pv-y*fv)/l):=by rw[<-hcb];exact Rs hx hy
   have hma:=Zy (a:=cb) (by omega) hx;have hms:=Zz (b:=rq) (by omega) hcj;have bx:=hbq.at hx;have by':=hbp.at hy
   have hM1:=K3 N.toa5 bx hbpc (by omega) (by omega);have hM2:=K3 N.toa5 by' hbqc (by omega) (by omega)
   have hSu:=nA N.too5 (bx.mul hbpc) (by'.mul hbqc) (by omega) (by omega);have hDi:=gO N.toa5 ((bx.mul hbpc).subL (by'.mul hbqc)) hbl (by omega) (by omega) hl0;have hRp2:(R2.set i (some (3,(cb.take j++rq.drop j).map eQ)))[P.length]? = some (some (3,rp.map eQ)):=by rw[List.getElem?_set,if_neg (by omega)];exact hRp
   generalize cb.take j++rq.drop j=cm at *;(repeat' ((first|(apply BR<;>intro hc<;>try (exfalso;omega))|(apply CE;omega)|apply BA)<;>conv=>whnf))
   refine L1 rfl (by omega) ?_;(conv=>whnf)
   (repeat' ((first|(refine HX ?_ (λ_=>rfl) (λ v hv => ?_);omega)|fail)<;>conv=>whnf))
   cases hma.symm.trans hv;(repeat' ((first|(apply CE;omega)|refine BH (hM1) ?_)<;>conv=>whnf))
   refine Y4 hRp2 ?_;(conv=>whnf)
   (repeat' ((first|(refine HX ?_ (λ_=>rfl) (λ v hv => ?_);omega)|fail)<;>conv=>whnf))
   cases hy.symm.trans hv;(repeat' ((first|refine BH (hM2) ?_|refine BH (hSu) ?_)<;>conv=>whnf))
   (repeat' ((first|(apply CE;omega)|refine BH (hDi) ?_)<;>conv=>whnf))
   refine L1 rfl (by omega) ?_;(conv=>whnf)
   refine G8 (enc:=eQ) ((x*pv-y*fv)/l) rfl (λ_=>rfl) (by omega) ?_;rw[hms];(conv=>whnf)
   refine VT rfl (by rw[List.length_map,List.length_map,<-hms,List.length_set]) ?_;(conv=>whnf)
   (repeat' ((first|(apply CG;omega)|fail)<;>conv=>whnf))
   exact C6 [] (jh (j+1) (by omega) ⟨by omega,by omega⟩)
  ·have ej:j=WW:=by omega
   clear jh;rw[List.take_of_length_le (by omega),List.drop_of_length_le (by omega),List.append_nil,hRf];(repeat' ((first|(apply BR<;>intro hc<;>try (exfalso;omega))|apply BA)<;>conv=>whnf))
   refine ⟨rfl,_,rfl,?_⟩;(conv=>whnf)
   (repeat' ((first|(apply CG;omega)|fail)<;>conv=>whnf))
   exact C6 [] (sh (m2.set i cb) (i+1) (by omega) ⟨hst2,by omega,by omega⟩)
 ·have ei:i=n:=by omega
  clear sh;rw[ei]at hS;(repeat' ((first|(apply BR<;>intro hc<;>try (exfalso;omega))|apply BA)<;>conv=>whnf))
  exact DE [] (by (conv=>whnf);exact ⟨rfl,rfl,rfl⟩) (hfin m2 hS)
theorem Dt {a b:List (List Rat)} {n w k:Nat} (haw : ∀ r∈a,r.length=n) (hbw : ∀ r∈b,r.length=w) (hab:Ms k a) (hbb:Ms k b):(∀ r∈E1 a b,r.length=n+w)/\Ms k (E1 a b):=by
 constructor
 ·intro r hr
  obtain ⟨i,hi⟩:=List.getElem?_of_mem hr;have hil:=(zS hi).1;simp only[E1,List.length_zipWith]at hil;obtain ⟨x,hx⟩ : ∃ x,a[i]? = some x:=⟨_,zE (by omega)⟩;obtain ⟨y,hy⟩ : ∃ y,b[i]? = some y:=⟨_,zE (by omega)⟩;obtain rfl:=Option.some.inj ((V9 hx hy).symm.trans hi);rw[List.length_append,haw x (zM hx),hbw y (zM hy)]
 ·intro r hr
  obtain ⟨i,hi⟩:=List.getElem?_of_mem hr;have hil:=(zS hi).1;simp only[E1,List.length_zipWith]at hil;obtain ⟨x,hx⟩ : ∃ x,a[i]? = some x:=⟨_,zE (by omega)⟩;obtain ⟨y,hy⟩ : ∃ y,b[i]? = some y:=⟨_,zE (by omega)⟩;obtain rfl:=Option.some.inj ((V9 hx hy).symm.trans hi);intro z hz;rcases List.mem_append.1 hz with hz|hz
  ·exact hab.at hx z hz
  ·exact hbb.at hy z hz
theorem Ux (N:MatGLib L) (q q1 q2 q3:Bool) (a b:List (List Rat)) (n w k K0:Nat) (hal:a.length=n) (haw : ∀ r∈a,r.length=n) (hbl:b.length=n) (hbw : ∀ r∈b,r.length=w) (hn:1<=n/\n<=52) (hw:1<=w/\w<=52) (hkK:k<=K0) (hK0:1<=K0) (hab:Ms k a) (hbb:Ms k b)
  (hsb0 : ∀ r∈E1 a b,∀ j,Bt K0 (C4 (r.take j))) (hwb:Ms K0 (whole (E1 a b)))
  (hB:6^n*K0<=1000000000000) (hC:HQ (6^n*K0) n n<=1000000000000) {B0:Nat} (hB0:HQ (6^n*K0) n n+6^n*K0<=B0) :
  ∃ v,Ev L 235 [.sl q (E8 q1 a),.sl q2 (E8 q3 b)] v/\((¬ NS n a/\v = .tup [.sl false [],.int .i64 11])\/(NS n a /\ ∃ y:Nat->List Rat,v = .tup [.sl false (eM (VB y n w)),.int .i64 0] /\
   ∀ c,c<w->(y c).length=n/\Bs B0 (y c) /\ ∀ (i:Nat) (r s:List Rat),a[i]? = some r->b[i]? = some s->CK r (y c)=s.getD c 0)):=by
 have hI:=LK N.toa5 1 (by omega);have hjl:(E1 a b).length=n:=by simp [E1,hal,hbl]
 have hjw : ∀ r∈E1 a b,r.length=n+w:=λ r hr=>by
  obtain ⟨i,hi⟩:=List.getElem?_of_mem hr;have hil:=(zS hi).1;obtain ⟨x,hx⟩ : ∃ x,a[i]? = some x:=⟨_,zE (by omega)⟩;obtain ⟨y,hy⟩ : ∃ y,b[i]? = some y:=⟨_,zE (by omega)⟩;obtain rfl:=Option.some.inj ((V9 hx hy).symm.trans hi);rw[List.length_append,haw x (zM hx),hbw y (zM hy)]
 have hjb:Ms k (E1 a b):=λ r hr=>by
  obtain ⟨i,hi⟩:=List.getElem?_of_mem hr;have hil:=(zS hi).1;obtain ⟨x,hx⟩ : ∃ x,a[i]? = some x:=⟨_,zE (by omega)⟩;obtain ⟨y,hy⟩ : ∃ y,b[i]? = some y:=⟨_,zE (by omega)⟩;obtain rfl:=Option.some.inj ((V9 hx hy).symm.trans hi);intro z hz;rcases List.mem_append.1 hz with hz|hz
  ·exact hab.at hx z hz
  ·exact hbb.at hy z hz
 refine Ev.xE N.PE rfl rfl ?_;(repeat' ((first|apply CB|apply BA)<;>conv=>whnf))
 unfold E7;refine ⟨⟨by omega,by omega,by simp only[F3];omega,by omega⟩,?_⟩;rw[Int.toNat_natCast,hal];(conv=>whnf)
 skip
 refine Ku 22 22 n rfl ?_;refine DG (λ i=>n-i) (λ(i:Nat)=>i<=n) (λ i=>[(25,.int .i64 i)]) (λ i=>[(22,22,.rw 1 ((fz none (((E1 a b).take i).map some) n).map mD))]) [] [] 0 (by first|exact (by (conv=>whnf);exact ⟨rfl,rfl,rfl⟩)|(rw[List.take_zero,List.map_nil,show fz (none:Option (List Rat)) [] n=List.replicate n none by simp [fz],List.map_replicate];exact (by (conv=>whnf);exact ⟨rfl,rfl,rfl⟩))) (by omega) ?_;intro i p1 ih;by_cases hi:i<n
 ·obtain ⟨r,hr0⟩ : ∃ r,a[i]? = some r:=⟨_,zE (by omega)⟩
  obtain ⟨s,hs0⟩ : ∃ s,b[i]? = some s:=⟨_,zE (by omega)⟩;have hr':a[(i:Int).toNat]? = some r:=hr0;have hs':b[(i:Int).toNat]? = some s:=hs0;have hrl:=haw r (zM hr0);have hsl:=hbw s (zM hs0);have hCc:=Tk N true q1 q3 r s (by omega) (by omega) (by omega);have hti:(((E1 a b).take i).map some).length=i:=by rw[List.length_map,List.length_take];omega
  have hfl:=gY (z:=(none:Option (List Rat))) (l:=((E1 a b).take i).map some) (m:=n) (by omega);have hfs:=gZ (z:=(none:Option (List Rat))) (x:=some (r++s)) (l:=((E1 a b).take i).map some) (m:=n) (by omega);have hta:(E1 a b).take (i+1)=(E1 a b).take i++[r++s]:=by rw[List.take_add_one,V9 hr0 hs0];rfl
  rw[hti,show ((E1 a b).take i).map some++[some (r++s)]=((E1 a b).take (i+1)).map some by rw[hta,List.map_append];rfl]at hfs;generalize fz (none:Option (List Rat)) (((E1 a b).take i).map some) n=J at *;(repeat' ((first|(apply BR<;>intro hc<;>try (exfalso;omega))|(apply CE;omega)|(refine CX (by assumption) ?_ rfl ?_;omega)|refine Y8 rfl rfl ?_|apply BA|refine BH (hCc) ?_)<;>conv=>whnf))
  refine G8 (enc:=mD) (some (r++s)) rfl (λ e=>by cases e<;>rfl) (by omega) ?_;(conv=>whnf)
  rw[hfs];(repeat' ((first|(apply CG;omega)|fail)<;>conv=>whnf))
  exact C6 [] (ih (i+1) (by omega) (by omega))
 have ei:i=n:=by omega
 clear ih;rw[ei,List.take_of_length_le (by omega),Yk hjl];(repeat' ((first|(apply BR<;>intro hc<;>try (exfalso;omega))|apply BA)<;>conv=>whnf))
 have hKB:K0<=1000000000000:=by simpa using oX hB (Nat.zero_le n)
 refine HI 1000 N.J9 rfl rfl ?_;(repeat' (apply BA<;>conv=>whnf))
 unfold E7;refine ⟨⟨by omega,by omega,by simp only[F3];omega,by omega⟩,?_⟩;rw[Int.toNat_natCast];(conv=>whnf)
 skip
 refine GT (enc:=eO) none n rfl (by omega) (by omega) ?_;(conv=>whnf)
 skip
 refine DE [] (by (conv=>whnf);exact ⟨rfl,rfl,rfl⟩) (AkV N q q1 q2 q3 a b (E1 a b) n (n+w) k hjl hjw hn (by omega) hjb hsb0 hkK hKB ?_);(repeat' (apply BA<;>conv=>whnf))
 refine ⟨rfl,_,rfl,?_⟩;(conv=>whnf)
 skip
 have hW2:n+w<=104:=by omega
 have hW:n<=n+w:=by omega
 have hm0l:(whole (E1 a b)).length=n:=by simp only[whole,List.length_map];exact hjl
 have hm0w:=rH hjw;have hm0b:=hwb;have hm0s:=Alt (E1 a b);have hjj:a.length=b.length:=by omega
 clear hjb hjw hab hbb hKB ei hi p1 i hsb0 hwb hkK;generalize whole (E1 a b)=m0 at hm0l hm0w hm0b hm0s ⊢;refine H6 1000 N.N5 rfl rfl ?_;(repeat' ((first|apply BA|refine BH (hI) ?_)<;>conv=>whnf))
 refine Kr (λ_ P _ _ _=>n-P.length) (λ(m:List (List Rat)) (P:List Nat) (c:Nat) (odd:Bool) (l:Rat)=>JW m0 K0 (n+w) n m P c odd l) (λ_ P c odd _=>[(7,.int .i64 (P.length:Nat)),(8,.int .i64 c),(9,.bool odd)]) (λ m _ _ _ l=>[(231016,231016,.mx (C7 3 eQ m)),(233010,233010,.bx (eQ l))]) [] [] m0 [] 0 false ((1:Int):Rat) (by (conv=>whnf);exact ⟨rfl,rfl,rfl⟩) (JW.start hm0w hm0b) ?_;intro m P c odd l hE eh;have hml:=hE.len;have hPl:=hE.ech.pl;rw[hm0l]at hml;by_cases hP:P.length<n
 ·have hp6:=oX hB (show P.length<=n by omega)
  (repeat' ((first|(apply BR<;>intro hc<;>try (exfalso;omega))|apply BA)<;>conv=>whnf))
  refine Kt (l:=[_,_]) (λ(m1:List (List Rat)) (c:Nat) (o:Bool)=>JW m0 K0 (n+w) n m1 P c o l/\(c<n -> ∃ rp,m1[P.length]? = some rp/\rp.getD c 0≠0)) (λ_ c o=>[(8,.int .i64 c),(9,.bool o)]) (λ m1 _ _=>[(231016,231016,.mx (C7 3 eQ m1))]) [17] rfl ?_ ?_
  ·clear hE hml hPl
   intro m1 c odd1 ⟨hE,hpv⟩;have hml:=hE.len;have hPl:=hE.ech.pl;have hcc:=hE.cc;rw[hm0l]at hml;by_cases hcn:c<n
   ·obtain ⟨rp,hp0,hpn⟩:=hpv hcn
    clear hpv;have hS:=hE.swp hcn hp0 hpn;(repeat' ((first|(apply BR<;>intro hc<;>try (exfalso;omega))|(apply CG;omega)|apply BA)<;>conv=>whnf))
    refine DE [] (by (conv=>whnf);exact ⟨rfl,rfl,rfl⟩) (AkU N q2 q3 b (E1 a b) ((E1 a b).map C4) hm0l hn hW hW2 hK0 hB hP hcn hS λ m2 hS => ?_);have ht0':=hS.ht;have hrpl:=hS.ech.lr rp (zM ht0');have hpc0:rp[c]? = some (rp.getD c 0):=OW (by omega);have hml2:=hS.len;have hfin:=hS.done hK0 (by omega);have hPl2:(P++[c]).length=P.length+1:=by simp
    generalize rp.getD c 0=pv at hpc0 hfin;clear hS hE hpn hp0;(repeat' ((first|(apply CE;omega)|(refine HJ ?_ (λ r hr => ?_);omega)|apply BA)<;>conv=>whnf))
    cases ht0'.symm.trans hr;refine CE (by rw[List.length_map];omega) ?_;(conv=>whnf)
    (repeat' ((first|(apply CG;omega)|(refine HX ?_ (λ_=>rfl) (λ v hv => ?_);omega)|refine H7 (by assumption) ?_)<;>conv=>whnf))
    cases hpc0.symm.trans hv;skip
    rw[show ((P.length:Nat):Int)+1=((P++[c]).length:Nat) by rw[hPl2];omega];exact DE [] (by (conv=>whnf);exact ⟨rfl,rfl,rfl⟩) (eh m2 (P++[c]) (c+1) _ pv (by rw[hPl2];omega) hfin)
   ·clear eh hpv
    (repeat' ((first|(apply BR<;>intro hc<;>try (exfalso;omega))|apply BA)<;>conv=>whnf))
    refine ⟨rfl,?_⟩;(conv=>whnf)
    (repeat' ((first|(apply BR<;>intro hc<;>try (exfalso;omega))|fail)<;>conv=>whnf))
    have hend:n<=c\/n<=P.length:=Or.inl (by omega);have hrk:=wS (w:=w) hE hm0s hjj haw hal hend;skip
    refine ⟨.tup [.sl false [],.int .i64 11],?_,Or.inl ⟨λ h=>absurd (hrk.2 h) (by omega),rfl⟩⟩;(conv=>whnf)
    exact CJ rfl (TU [] 11)
  ·clear eh
   intro hmeet;refine DG (λ c=>n-c) (λ(c:Nat)=>JW m0 K0 (n+w) n m P c odd l) (λ c=>[(8,.int .i64 c)]) (λ_=>[]) [17] [] c (by (conv=>whnf);exact ⟨rfl,rfl,rfl⟩) hE ?_;clear hE;intro c hE ch;have hcc:=hE.cc;by_cases hcn:c<n
   ·(repeat' ((first|(apply BR<;>intro hc<;>try (exfalso;omega))|apply BA)<;>conv=>whnf))
    refine DG (λ i=>n-i) (λ(i:Nat)=>P.length<=i/\i<=n /\ ∀ (q:Nat) (r:List Rat),P.length<=q->q<i->m[q]? = some r->r.getD c 0=0) (λ i=>[(11,.int .i64 i)]) (λ_=>[]) [] [] P.length (by (conv=>whnf);exact ⟨rfl,rfl,rfl⟩) ⟨Nat.le_refl _,by omega,λ q r h1 h2=>absurd h1 (by omega)⟩ ?_;intro i ⟨i1,i2,i3⟩ ih;by_cases hi:i<n
    ·obtain ⟨rp,hr0⟩ : ∃ r,m[i]? = some r:=⟨_,zE (by omega)⟩
     have hrl:=hE.ech.lr rp (zM hr0);have hrc0:rp[c]? = some (rp.getD c 0):=OW (by omega);have hSg:=N1 N.toa5 (hE.ms.at hr0 _ (zM hrc0)) (by omega);have hz:=OJ (x:=rp.getD c 0);generalize hrcv:rp.getD c 0=rc at *;generalize sgn rc.num=sg at *;by_cases hsg:sg=0
     ·(repeat' ((first|(apply BR<;>intro hc<;>try (exfalso;omega))|(apply CE;omega)|(refine HJ ?_ (λ r hr => ?_);omega)|apply BA)<;>conv=>whnf))
      cases hr0.symm.trans hr;refine CE (by rw[List.length_map];omega) ?_;(conv=>whnf)
      (repeat' ((first|(refine HX ?_ (λ_=>rfl) (λ v hv => ?_);omega)|refine H7 (by assumption) ?_)<;>conv=>whnf))
      cases hrc0.symm.trans hv;(repeat' ((first|(apply BR<;>intro hc<;>try (exfalso;omega))|(apply CG;omega)|refine BH (hSg) ?_)<;>conv=>whnf))
      refine DE [] (by (conv=>whnf);exact ⟨rfl,rfl,rfl⟩) (ih (i+1) (by omega) ⟨by omega,by omega,λ q x h1 h2 hx => ?_⟩);by_cases e:q=i
      ·subst e
       cases hr0.symm.trans hx;rw[hrcv];exact hz.1 hsg
      ·exact i3 q x h1 (by omega) hx
     ·clear ih ch
      have hnz:rc≠0:=λ e=>hsg (hz.2 e)
      (repeat' ((first|(apply BR<;>intro hc<;>try (exfalso;omega))|(apply CE;omega)|(refine HJ ?_ (λ r hr => ?_);omega)|apply BA)<;>conv=>whnf))
      cases hr0.symm.trans hr;refine CE (by rw[List.length_map];omega) ?_;(conv=>whnf)
      (repeat' ((first|(refine HX ?_ (λ_=>rfl) (λ v hv => ?_);omega)|refine H7 (by assumption) ?_)<;>conv=>whnf))
      cases hrc0.symm.trans hv;(repeat' ((first|(apply BR<;>intro hc<;>try (exfalso;omega))|(apply CE;omega)|(refine HJ ?_ (λ r hr => ?_);omega)|refine H7 (by assumption) ?_|refine BH (hSg) ?_)<;>conv=>whnf))
      ·obtain ⟨t,ht0⟩ : ∃ t,m[P.length]? = some t:=⟨_,zE (by omega)⟩
       refine CE ⟨rfl,by simp only[C7,List.length_map];omega⟩ ?_;(conv=>whnf)
       (repeat' ((first|(apply CE;omega)|refine H7 (by assumption) ?_)<;>conv=>whnf))
       rw[show 0+((i:Nat):Int).toNat=i by omega,show 0+((P.length:Nat):Int).toNat=P.length by omega];refine CE ⟨rfl,by simp only[C7,List.length_map,List.length_set,List.length_range];omega,Hb (by simp only[C7,List.length_map];omega)⟩ ?_;(conv=>whnf)
       skip
       have hE2:=hE.swap hr0 ht0 i1 (Nat.le_refl _) (by omega);have hS2:c<n -> ∃ rp',((m.set i t).set P.length rp)[P.length]? = some rp'/\rp'.getD c 0≠0:=λ_=>⟨rp,by rw[List.getElem?_set,if_pos rfl,if_pos (by rw[List.length_set];omega)],by rw[hrcv];exact hnz⟩
       generalize hob:(!odd)=ob at *;cases ob;all_goals
        (conv=>whnf)
        skip
        refine eC.go ?_;refine rS (k:=231016) (i:=i) (j:=P.length) rfl (PM hr0) (PM ht0) rfl rfl ?_;rw[Cy];exact DE [] (by (conv=>whnf);exact ⟨rfl,rfl,rfl⟩) (hmeet _ c _ ⟨hE2,hS2⟩)
      ·have ei:i=P.length:=by omega
       exact eC.go (DE [] (by (conv=>whnf);exact ⟨rfl,rfl,rfl⟩) (hmeet m c odd ⟨hE,λ_=>⟨rp,by rw[<-ei];exact hr0,by rw[hrcv];exact hnz⟩⟩))
    ·have ei:i=n:=by omega
     clear ih;(repeat' ((first|(apply BR<;>intro hc<;>try (exfalso;omega))|(apply CG;omega)|apply BA)<;>conv=>whnf))
     exact C6 [] (ch (c+1) (by omega) (hE.skip hcn λ q x h1 hx=>i3 q x h1 (by have:=(zS hx).1;omega) hx))
   ·clear ch
    (repeat' ((first|(apply BR<;>intro hc<;>try (exfalso;omega))|apply BA)<;>conv=>whnf))
    exact eC.go (DE [] (by (conv=>whnf);exact ⟨rfl,rfl,rfl⟩) (hmeet m c odd ⟨hE,λ h=>absurd h hcn⟩))
 ·clear eh
  (repeat' ((first|(apply BR<;>intro hc<;>try (exfalso;omega))|apply BA)<;>conv=>whnf))
  refine ⟨rfl,?_⟩;(conv=>whnf)
  (repeat' ((first|(apply BR<;>intro hc<;>try (exfalso;omega))|fail)<;>conv=>whnf))
  have hend:n<=c\/n<=P.length:=Or.inr (by omega);have hrk:=wS (w:=w) hE hm0s hjj haw hal hend;have hPn:P.length=n:=by have:=hE.ech.le;have:=hE.ech.pl;omega
  have hns:=hrk.1 hPn;have hfac:=AkT hE hm0s hjj haw hbw hPn hml;have htri:=Hj hE hPn hml;have hmw:=hE.ech.lr;have hms:=hE.ms;have hbl0:=hE.bl;have hl0:=hE.l0;rw[hPn]at hms hbl0;clear hE hrk hPl hm0b hm0w hm0s;have hdg : ∀ (e:Nat) (r:List Rat),m[e]? = some r->r.getD e 0≠0:=λ e r hr=>by
   rw[<-VW hr];exact (htri e (by have:=(zS hr).1;omega)).1
  skip
  unfold E7;refine ⟨⟨by omega,by omega,by simp only[F3];omega,by omega⟩,?_⟩;rw[Int.toNat_natCast];(conv=>whnf)
  skip
  refine DG (λ u=>n-u) (λ(u:Nat)=>u<=n) (λ u=>[(61,.int .i64 u)]) (λ u=>[(58,58,.mx (List.replicate u (some (3,(FR [] w).map eO))++List.replicate (n-u) none))]) [] [] 0 (by (conv=>whnf);exact ⟨rfl,rfl,rfl⟩) (by omega) ?_;intro u r1 uh;by_cases hu:u<n
  ·obtain ⟨s,hs0⟩ : ∃ s,b[u]? = some s:=⟨_,zE (by omega)⟩
   have hs':b[(u:Int).toNat]? = some s:=hs0;have hsl:=hbw s (zM hs0);(repeat' ((first|(apply BR<;>intro hc<;>try (exfalso;omega))|apply CB|(refine CX (by assumption) ?_ rfl ?_;omega)|apply BA)<;>conv=>whnf))
   rw[hsl];refine GT (enc:=eO) none w rfl rfl (by omega) ?_;(conv=>whnf)
   (repeat' ((first|(apply CE;omega)|fail)<;>conv=>whnf))
   unfold B1 EP;refine ⟨by simp,by simp;omega,?_⟩;(conv=>whnf)
   rw[show 0+((u:Int)).toNat=u by omega,<-KO,nC _ _ r1 hu];(repeat' ((first|(apply CG;omega)|fail)<;>conv=>whnf))
   exact C6 [] (uh (u+1) (by omega) (by omega))
  have eu:u=n:=by omega
  subst eu;clear uh;obtain ⟨y,hy⟩ : ∃ y:Nat->List Rat,y=λ c'=>(HK (u+c') l m 0).map (· / l):=⟨_,rfl⟩
  have hyl : ∀ c',(y c').length=u:=λ c'=>by rw[hy,List.length_map,UQ];exact hml
  have hRl:(VB y u w).length=u:=by simp [VB]
  have hRat : ∀ e,e<u->(VB y u w)[e]? = some ((List.range w).map λ c'=>(y c').getD e 0):=λ e he=>by simp [VB,he]
  have hRw : ∀ r∈VB y u w,r.length=w:=λ r hr=>by
   obtain ⟨i,_,rfl⟩:=List.mem_map.1 hr;simp
  rw[show List.replicate u (some (3,List.map eO (FR [] w)))++List.replicate (u-u) none=C7 3 eO (ot (VB y u w) w 0 0) by rw[Ck,hRl];simp [C7]];obtain ⟨s0,hs0⟩ : ∃ s,b[0]? = some s:=⟨_,zE (by omega)⟩;have hs0':b[(0:Int).toNat]? = some s0:=hs0;have hs0l:=hbw s0 (zM hs0);generalize hRg:VB y u w=R at hRl hRat hRw ⊢;(repeat' ((first|(apply BR<;>intro hc<;>try (exfalso;omega))|apply CB|(refine CX (by assumption) ?_ rfl ?_;omega)|apply BA)<;>conv=>whnf))
  rw[hs0l];refine DG (λ c=>w-c) (λ(c:Nat)=>c<=w) (λ c=>[(78,.int .i64 c)]) (λ c=>[(58,58,.mx (C7 3 eO (ot R w c 0)))]) [] [] 0 (by (conv=>whnf);exact ⟨rfl,rfl,rfl⟩) (by omega) ?_;intro c' r2 ch;by_cases hc2:c'<w
  ·have hCol:=Vy N true true m u (u+w) (u+c') (6^u*K0) l hml hmw (by omega) (by omega) (by omega) (by omega) hdg hms hbl0 (by omega)
   have hbs:=fI (c:=u+c') (n:=u) hbl0 m 0 (by omega) hms;have hxl:=UQ (u+c') l m 0;have hyc : ∀ (e:Nat) (x:Rat),(HK (u+c') l m 0)[e]? = some x->(y c').getD e 0=x/l:=λ e x hx=>by
    rw[hy,List.getD_eq_getElem?_getD,List.getElem?_map,hx];rfl
   rw[hml]at hbs hxl;rw[Int.natCast_add]at hCol;generalize HK (u+c') l m 0=xs at hCol hbs hxl hyc;(repeat' ((first|(apply BR<;>intro hc<;>try (exfalso;omega))|(apply CG;omega)|apply BA)<;>conv=>whnf))
   refine NT (λ_=>rfl) rfl (by omega) ?_;(conv=>whnf)
   (repeat' ((first|apply CB|refine BH (hCol) ?_)<;>conv=>whnf))
   refine DG (λ f=>u-f) (λ(f:Nat)=>f<=u) (λ f=>[(88,.int .i64 f)]) (λ f=>[(58,58,.mx (C7 3 eO (ot R w c' f)))]) [] [] 0 (by (conv=>whnf);exact ⟨rfl,rfl,rfl⟩) (by omega) ?_;intro f r5 fh;by_cases hf2:f<u
   ·obtain ⟨x,hx⟩ : ∃ x,xs[f]? = some x:=⟨_,zE (by omega)⟩
    have hx':xs[(f:Int).toNat]? = some x:=hx;have bx:=hbs.at hx;have hD:=gO N.toa5 bx hbl0 (by omega) (by omega) hl0;have hPr:=hRat f hf2;have hmc:((List.range w).map λ c'=>(y c').getD f 0)[c']? = some (x/l):=by rw[List.getElem?_map,List.getElem?_range hc2,Option.map_some,hyc f x hx]
    have hmlw:((List.range w).map λ c'=>(y c').getD f 0).length=w:=by simp
    generalize ((List.range w).map λ c'=>(y c').getD f 0)=row at hPr hmc hmlw;have hoa:=cX (n:=w) (j:=c') (i:=f) hPr;rw[if_neg (by omega)]at hoa;have hos:=Cj (n:=w) (j:=c') hPr;have hol:=Z3 R w c' f;have hlf:=JM (l:=row.take c') (m:=w) (by rw[List.length_take];omega);have hst:=KP (l:=row.take c') (m:=w) (x:=x/l) (by rw[List.length_take];omega);rw[List.length_take,Nat.min_eq_left (by omega),<-LC hmc]at hst;generalize ot R w c' f=O at *;(repeat' ((first|(apply BR<;>intro hc<;>try (exfalso;omega))|(apply CE;omega)|(refine CX (by assumption) ?_ rfl ?_;omega)|(refine HJ ?_ (λ r hr => ?_);omega)|apply BA|refine BH (hD) ?_)<;>conv=>whnf))
    cases hoa.symm.trans hr;skip
    have hlf2:=JM (l:=row.take (c'+1)) (m:=w) (by rw[List.length_take];omega);refine CE (by rw[List.length_map];omega) ?_;(conv=>whnf)
    (repeat' ((first|refine H7 (by assumption) ?_|fail)<;>conv=>whnf))
    refine G8 (enc:=eO) (some (x/l)) rfl (λ e=>by cases e<;>rfl) (by omega) ?_;(conv=>whnf)
    rw[hst];refine eJ (by omega) ?_;rw[hos];(conv=>whnf)
    (repeat' ((first|(apply CG;omega)|fail)<;>conv=>whnf))
    exact C6 [] (fh (f+1) (by omega) (by omega))
   have ef:f=u:=by omega
   clear fh;have hnx:=Ci R w c';rw[hRl]at hnx;rw[ef,hnx];(repeat' ((first|(apply BR<;>intro hc<;>try (exfalso;omega))|(apply CG;omega)|apply BA)<;>conv=>whnf))
   exact C6 [] (ch (c'+1) (by omega) (by omega))
  have ec:c'=w:=by omega
  clear ch;rw[ec,Ch hRw];(repeat' ((first|(apply BR<;>intro hc<;>try (exfalso;omega))|apply BA)<;>conv=>whnf))
  refine ⟨.tup [.sl false (eM R),.int .i64 0],?_,Or.inr ⟨hns,y,by rw[<-hRg],λ c2 hc2=>⟨hyl c2,?_,λ i r s h1 h2=>by rw[hy];exact hfac c2 hc2 i r s h1 h2⟩⟩⟩
  ·(conv=>whnf)
   refine NT (λ_=>rfl) rfl (by omega) ?_;(conv=>whnf)
   exact CJ rfl (TU R 0)
  ·rw[hy]
   intro z hz;obtain ⟨x,hx,rfl⟩:=List.mem_map.1 hz;have hbs:=fI (c:=u+c2) (n:=u) hbl0 m 0 (by omega) hms;rw[hml]at hbs;exact ((hbs x hx).divL hbl0).le (by omega)
theorem Uw (N:MatGLib L) (q q1 q2 q3:Bool) (a b:List (List Rat)) (n w k:Nat) (hal:a.length=n) (haw : ∀ r∈a,r.length=n) (hbl:b.length=n) (hbw : ∀ r∈b,r.length=w) (hn:1<=n/\n<=52) (hw:1<=w/\w<=52) (hk:1<=k) (hab:Ms k a) (hbb:Ms k b)
  (hB:6^n*(3^(n+w)*k)<=1000000000000) (hC:HQ (6^n*(3^(n+w)*k)) n n<=1000000000000) {B0:Nat} (hB0:HQ (6^n*(3^(n+w)*k)) n n+6^n*(3^(n+w)*k)<=B0) :
  ∃ v,Ev L 235 [.sl q (E8 q1 a),.sl q2 (E8 q3 b)] v/\((¬ NS n a/\v = .tup [.sl false [],.int .i64 11])\/(NS n a /\ ∃ y:Nat->List Rat,v = .tup [.sl false (eM (VB y n w)),.int .i64 0] /\
   ∀ c,c<w->(y c).length=n/\Bs B0 (y c) /\ ∀ (i:Nat) (r s:List Rat),a[i]? = some r->b[i]? = some s->CK r (y c)=s.getD c 0)):=by
 obtain ⟨hjw,hjb⟩:=Dt haw hbw hab hbb;exact Ux N q q1 q2 q3 a b n w k (3^(n+w)*k) hal haw hbl hbw hn hw (rG k (n+w)) (Nat.mul_pos (Nat.pow_pos (by omega)) hk) hab hbb (rM hk hjw hjb) (rJ hk hjw hjb) hB hC hB0
def T9 (x:Rat):Option (Nat × List (List AV)):=some (3,[eQ x])
theorem Tq (N:MatGLib L) (q q1:Bool) (a:List (List Rat)) (n k:Nat) (hal:a.length=n) (haw : ∀ r∈a,r.length=n) (hn:1<=n/\n<=52) (hk:1<=k) (hab:Ms k a)
  (hB:6^n*(3^(n+n)*k)<=1000000000000) (hC:HQ (6^n*(3^(n+n)*k)) n n<=1000000000000) {B0:Nat} (hB0:HQ (6^n*(3^(n+n)*k)) n n+6^n*(3^(n+n)*k)<=B0) :
  ∃ v,Ev L 238 [.sl q (E8 q1 a)] v/\((¬ NS n a/\v = .tup [.sl false [],.int .i64 11])\/(NS n a /\ ∃ w:List (List Rat),v = .tup [.sl false (eM w),.int .i64 0] /\
   w.length=n/\(∀ r∈w,r.length=n)/\Ms B0 w/\EA a w n=FJ n/\EA w a n=FJ n)):=by
 have hV:=mJ N q q1 a n n hal haw hn hn;have hI:=Wh N n hn;obtain ⟨r0,hr0⟩ : ∃ r,a[0]? = some r:=⟨_,zE (by omega)⟩;have hr0':a[(0:Int).toNat]? = some r0:=hr0;have hl0:=haw r0 (zM hr0);have hidl:(FJ n).length=n:=by simp [FJ]
 have hidw : ∀ r∈FJ n,r.length=n:=(Sq.id n).r;have hidb:Ms k (FJ n):=λ r hr=>by
  obtain ⟨i,_,rfl⟩:=List.mem_map.1 hr;intro z hz;obtain ⟨j,_,rfl⟩:=List.mem_map.1 hz;by_cases e:((j:Nat):Int)=(i:Int)
  ·rw[if_pos e];exact (Bt.one 0).le (Nat.zero_le k)
  ·first|(rw[if_neg e];exact Bt.zero _)|(rw[if_neg (Ne.symm e)];exact Bt.zero _)
 obtain ⟨v,hS,hor⟩:=Uw N q q1 false false a (FJ n) n n k hal haw hidl hidw hn hn hk hab hidb hB hC hB0;refine ⟨v,?_,?_⟩
 ·have hcl:CS v:=by
   rcases hor with ⟨_,rfl⟩|⟨_,y,rfl,_⟩
   ·exact TU [] 11
   ·exact TU _ 0
  refine Ev.x N.O7 rfl rfl ?_;rcases hor with ⟨_,rfl⟩|⟨_,y,rfl,_⟩
  ·(repeat' ((first|(apply BR<;>intro hc<;>try (exfalso;omega))|apply CB|(refine CX (by assumption) ?_ rfl ?_;omega)|apply BA|refine BH (hV) ?_)<;>conv=>whnf))
   rw[hal];(repeat' ((first|refine BH (hI) ?_|refine BH (hS) ?_)<;>conv=>whnf))
   exact CJ rfl hcl
  ·(repeat' ((first|(apply BR<;>intro hc<;>try (exfalso;omega))|apply CB|(refine CX (by assumption) ?_ rfl ?_;omega)|apply BA|refine BH (hV) ?_)<;>conv=>whnf))
   rw[hal];(repeat' ((first|refine BH (hI) ?_|refine BH (hS) ?_)<;>conv=>whnf))
   exact CJ rfl hcl
 ·rcases hor with ⟨hns,rfl⟩|⟨hns,y,rfl,hy⟩
  ·exact Or.inl ⟨hns,rfl⟩
  ·have hsol:EA a (WD y n) n=FJ n:=Ajk hal (λ c hc=>(hy c hc).1) λ c i r hc hr=>by
    obtain ⟨s,hs⟩ : ∃ s,(FJ n)[i]? = some s:=⟨_,zE (by have:=(zS hr).1;omega)⟩;rw[(hy c hc).2.2 i r s hr hs];have hin:i<n:=by have:=(zS hr).1;omega
    obtain rfl:FV n i=s:=by simpa [FJ,hin] using hs
    rw[rE,if_pos hc]
   have hcl:(WD y n).length=n:=by simp [WD]
   have hcr : ∀ r∈WD y n,r.length=n:=λ r hr=>by
    obtain ⟨i,_,rfl⟩:=List.mem_map.1 hr;simp
   refine Or.inr ⟨hns,WD y n,rfl,hcl,hcr,λ r hr z hz => ?_,hsol,Ajd ⟨hal,haw⟩ ⟨hcl,hcr⟩ hns hsol⟩;obtain ⟨i,hi,rfl⟩:=List.mem_map.1 hr;obtain ⟨c,hc,rfl⟩:=List.mem_map.1 hz;have:=(hy c (List.mem_range.1 hc)).2.1
   have hl:=(hy c (List.mem_range.1 hc)).1;exact this.at (OW (by rw[hl];exact List.mem_range.1 hi))
end Go.Eng

namespace Go.Eng
def NJ (a:List (List Rat)) (w:Nat):List (List Rat):=(List.range w).map (EB a)
theorem Gn (a:List (List Rat)) (w:Nat):(NJ a w).length=w:=by simp [NJ]
theorem Gm {a:List (List Rat)} {w i:Nat} (h:i<w):(NJ a w)[i]? = some (EB a i):=by
 simp only[NJ,List.getElem?_map,List.getElem?_range h,Option.map_some]
theorem Alj {a:List (List Rat)} {w n:Nat} (h:a.length=n) : ∀ r∈NJ a w,r.length=n:=λ r hr=>by
 obtain ⟨i,_,rfl⟩:=List.mem_map.1 hr;rw[bL];exact h
end Go.Eng

namespace Go.Eng
open F
attribute [local irreducible] AH BJ B1 BD E6 CF CI CY CU DX B5 DT EN GS DS CR DR EF AR CW BW pw DC DB EP EV E7 FM EZ D5 FE
variable {L:Lib}
set_option maxHeartbeats 16000000
set_option maxRecDepth 8000
theorem sG {R:List (Option (Nat × List (List AV)))} {e:Nat} {r:Option (Nat × List (List AV))} {K:Option (Nat × List (List AV))->Prop} (h:R[e]? = some r) (hk:K r):DC R e K:=by
 unfold DC;exact ⟨r,h,hk⟩
theorem Cz {T:List (List Rat)} {n i:Nat} (hl:T.length=n) (hi:i<n):(mz T n i)[i]? = some none:=by
 have hl2:(C7 3 eQ (T.take i)).length=i:=by simp only[C7,List.length_map,List.length_take];omega
 have:=yU (z:=(none:Option (Nat × List (List AV)))) (l:=C7 3 eQ (T.take i)) (m:=n) (by omega)
 rw[hl2]at this;exact this
theorem Wj (N:MatHLib L) (q q':Bool) (a:List (List Rat)) (n w k:Nat) (hal:a.length=n) (har : ∀ r∈a,r.length=w) (hn:1<=n/\n<=52) (hw:1<=w/\w<=52) (hab:Ms k a) (hk:k<2199023255552):Ev L 246 [.sl q (E8 q' a)] (.sl false (eM (NJ a w))):=by
 have hat : ∀ i,i<w->(NJ a w)[i]? = some (EB a i):=λ i h=>Gm h
 have htl:=Gn a w;have hcol : ∀ i,(EB a i).length=n:=λ i=>by simp [EB,hal]
 have hx : ∀ i j,i<w->j<n -> ∃ r x,a[j]? = some r/\r[i]? = some x/\(EB a i)[j]? = some x/\r.length=w/\Bt k x:=λ i j h1 h2=>by
  obtain ⟨r,hr⟩ : ∃ r,a[j]? = some r:=⟨_,zE (by omega)⟩;have hrl:=har r (zM hr);obtain ⟨x,hx⟩ : ∃ x,r[i]? = some x:=⟨_,zE (by omega)⟩;exact ⟨r,x,hr,hx,by rw[EB,List.getElem?_map,hr,Option.map_some,List.getD_eq_getElem?_getD,hx];rfl,hrl,(hab.at hr).at hx⟩
 obtain ⟨r0,hr0⟩ : ∃ r,a[0]? = some r:=⟨_,zE (by omega)⟩;have hr0':a[(0:Int).toNat]? = some r0:=hr0;have hl0:=har r0 (zM hr0);generalize hT:NJ a w=T at *;refine Ev.x N.PG rfl rfl ?_;(repeat' ((first|apply CB|(refine CX (by assumption) ?_ rfl ?_;omega)|apply BA)<;>conv=>whnf))
 unfold E7;refine ⟨⟨by omega,by omega,by simp only[F3];omega,by omega⟩,?_⟩;rw[Int.toNat_natCast,hl0];(conv=>whnf)
 skip
 refine DG (λ i=>w-i) (λ(i:Nat)=>i<=w) (λ i=>[(13,.int .i64 i)]) (λ i=>[(10,10,.mx (mz T w i))]) [] [] 0 (by first|exact (by (conv=>whnf);exact ⟨rfl,rfl,rfl⟩)|(rw[<-X0 T];exact (by (conv=>whnf);exact ⟨rfl,rfl,rfl⟩))) (by omega) ?_;intro i p1 ih;have hzl:=XY (Q:=T) p1;by_cases hi:i<w
 ·have hst:=XZ (hat i hi) hi
  have hci:=hcol i;have hnone:=Cz htl hi;obtain ⟨r,x,e1,e2,e3,hrl,hxb⟩:=hx i 0 hi (by omega);have e1':a[(0:Int).toNat]? = some r:=e1;have e2':r[(i:Int).toNat]? = some x:=e2;have hTr:=XM N.toa5 hxb hk;have hc1:(EB a i).take 1=[x]:=by rw[List.take_add_one,e3];rfl
  generalize mz T w i=R0 at *;(repeat' ((first|(apply BR<;>intro hc<;>try (exfalso;omega))|apply CB|apply BA)<;>conv=>whnf))
  refine WS ?_;(repeat' ((first|(apply BR<;>intro hc<;>try (exfalso;omega))|(apply CE;omega)|apply BA)<;>conv=>whnf))
  refine sG (r:=none) (by rw[Nat.zero_add,Int.toNat_natCast];exact hnone) ?_;(conv=>whnf)
  (repeat' ((first|(refine CX (by assumption) ?_ rfl ?_;omega)|apply G0|refine BH (hTr) ?_)<;>conv=>whnf))
  refine Y1 (enc:=eQ) x rfl rfl (by omega) ?_;(conv=>whnf)
  (repeat' ((first|(apply CE;omega)|fail)<;>conv=>whnf))
  refine CE rfl ?_;refine OO (i:=i) (by omega) (by omega) ?_;(conv=>whnf)
  (repeat' ((first|(apply CG;omega)|fail)<;>conv=>whnf))
  refine DG (λ j=>n-j) (λ(j:Nat)=>1<=j/\j<=n) (λ j=>[(18,.int .i64 j)]) (λ j=>[(10,10,.mx (R0.set i (some (3,((EB a i).take j).map eQ))))]) [] [] 1 (by first|exact (by (conv=>whnf);exact ⟨rfl,rfl,rfl⟩)|(rw[hc1];exact (by (conv=>whnf);exact ⟨rfl,rfl,rfl⟩))) (by omega) ?_;intro j ⟨r1,r2⟩ jh;have htj:((EB a i).take j).length=j:=by rw[List.length_take];omega
  by_cases hj:j<n
  ·obtain ⟨r,x,e1,e2,e3,hrl,hxb⟩:=hx i j hi hj
   have e1':a[(j:Int).toNat]? = some r:=e1;have e2':r[(i:Int).toNat]? = some x:=e2;have hTr:=XM N.toa5 hxb hk;have hs:=TC e3;have htj1:((EB a i).take (j+1)).length=j+1:=by rw[List.length_take];omega
   generalize (EB a i).take j=W at *;(repeat' ((first|(apply BR<;>intro hc<;>try (exfalso;omega))|(apply CE;omega)|apply BA)<;>conv=>whnf))
   refine MM (by omega) (by omega) ?_;(conv=>whnf)
   (repeat' ((first|(refine CX (by assumption) ?_ rfl ?_;omega)|apply G0|refine BH (hTr) ?_)<;>conv=>whnf))
   refine L1 (by omega) (by omega) ?_;(conv=>whnf)
   refine HP (enc:=eQ) x rfl (by rw[List.length_map]) rfl (by omega) (by omega) ?_;intro s' v;rw[<-hs,htj1];(conv=>whnf)
   (repeat' ((first|(apply CE;omega)|fail)<;>conv=>whnf))
   refine CE ⟨rfl,by rw[List.length_map];omega⟩ ?_;refine OO (i:=i) (by omega) (by rw[List.length_set,List.length_set];omega) ?_;rw[show 0+((i:Int)).toNat=i by omega,List.set_set,List.set_set];(conv=>whnf)
   (repeat' ((first|(apply CG;omega)|fail)<;>conv=>whnf))
   exact C6 [] (jh (j+1) (by omega) (by omega))
  have ej:j=n:=by omega
  clear jh;rw[ej,List.take_of_length_le (by omega),hst];(repeat' ((first|(apply BR<;>intro hc<;>try (exfalso;omega))|(apply CG;omega)|apply BA)<;>conv=>whnf))
  exact C6 [] (ih (i+1) (by omega) (by omega))
 have ei:i=w:=by omega
 clear ih;rw[ei,XX (by omega)];(repeat' ((first|(apply BR<;>intro hc<;>try (exfalso;omega))|apply BA)<;>conv=>whnf))
 refine NT (λ_=>rfl) rfl (by omega) ?_;(conv=>whnf)
 exact CJ rfl (tT T)
def iQ (l:List Rat):Option (Nat × List (List AV)):=if l=[] then none else some (3,l.map eQ)
theorem Dl:iQ []=none:=if_pos rfl
theorem iR {l:List Rat} (h:0<l.length):iQ l=some (3,l.map eQ):=if_neg (λ e=>by rw[e]at h;cases h)
theorem Ur {s t:Rat} (hs:s≠0) (ht:t≠0) (r c:List Rat):CK (r.map (· * s)) (c.map (· * t))/(s*t)=CK r c:=by
 rw[ZI,I9,ZI,I9];have h1:=Rat.mul_inv_cancel s hs;have h2:=Rat.mul_inv_cancel t ht;rw[Rat.div_def,Rat.inv_mul_rev];grind
theorem Alg (N:MatGLib L) (q1 q2 q3 q4:Bool) (b:List (List Rat)) (a:List (List Rat)) (n WW k:Nat) {K:Nat} (hal:a.length=n) (haw : ∀ r∈a,r.length=WW) (hn:1<=n/\n<=52) (hW:WW<=104) (hab:Ms k a) (hsb0 : ∀ r∈a,∀ j,Bt K (C4 (r.take j))) (hkK:k<=K) (hKB:K<=1000000000000) {kk:List It} {Q:Tm->Mem->Prop}
  (hfin:AH L kk ([(5,.row 231019 0 3 0 n),(4,.row 231016 0 1 0 n)]++[(1000+33,.sl q1 (E8 q2 a)),(1000+31,.bool false),(1000+0,.sl q1 (E8 q2 a)),(1000+(0+1),.sl q3 (E8 q4 b))]) ([(231016,231016,.mx (C7 3 eQ (whole a))),(231019,231019,.rw 3 ((a.map C4).map eQ))]++[]) Q) :
  AH L (.lp J9.l1 :: .blk 0::kk) ([(22,.int .i64 0),(21,.int .i64 n),(20,.sl q1 (E8 q2 a)),(5,.row 231019 0 3 0 n),(4,.row 231016 0 1 0 n)]++[(1000+33,.sl q1 (E8 q2 a)),(1000+31,.bool false),(1000+0,.sl q1 (E8 q2 a)),(1000+(0+1),.sl q3 (E8 q4 b))]) ([(231016,231016,.mx (List.replicate n none)),(231019,231019,.rw 3 ((List.replicate n none).map eO))]++[]) Q:=by
 have hI:=LK N.toa5 1 (by omega);refine VP (l:=[_,_]) rfl ?_;refine DG (λ i=>n-i) (λ(i:Nat)=>i<=n) (λ i=>[(22,.int .i64 i)]) (λ i=>[(231016,231016,.mx (mz (whole a) n i)),(231019,231019,.rw 3 ((FR ((a.map C4).take i) n).map eO))]) [] [] 0 (by first|exact (by (conv=>whnf);exact ⟨rfl,rfl,rfl⟩)|(rw[<-X0 (whole a),List.take_zero,<-KO];exact (by (conv=>whnf);exact ⟨rfl,rfl,rfl⟩))) (by omega) ?_;intro i p1 ih;have hzl:=XY (Q:=whole a) p1;by_cases hi:i<n
 ·obtain ⟨r,hr⟩ : ∃ r,a[i]? = some r:=⟨_,zE (by omega)⟩
  have hr':a[(i:Int).toNat]? = some r:=hr;have hrl:=haw r (zM hr);have hrb:=hab.at hr;have hst:=XZ (Q:=whole a) (i:=i) (n:=n) (row:=r.map (· * C4 r)) (by simp [whole,hr]) hi;have hsca:(a.map C4)[i]? = some (C4 r):=by simp [hr]
  generalize mz (whole a) n i=R0 at *;have hsb : ∀ j,Bt K (C4 (r.take j)):=hsb0 r (zM hr);have hscr:=hsb WW;rw[List.take_of_length_le (by omega)]at hscr;(repeat' ((first|(apply BR<;>intro hc<;>try (exfalso;omega))|apply CB|(refine CX (by assumption) ?_ rfl ?_;omega)|apply BA|refine BH (hI) ?_)<;>conv=>whnf))
  try cases hr.symm.trans hv
  refine I3 (λ j _=>WW-j) (λ(j:Nat) (s:Rat)=>j<=WW/\s=C4 (r.take j)) (λ j _=>[(30,.int .i64 j)]) (λ_ s=>[(231008,231008,.bx (eQ s))]) [] [] 0 ((1:Int):Rat) (by (conv=>whnf);exact ⟨rfl,rfl,rfl⟩) ⟨by omega,by rw[List.take_zero];rfl⟩ ?_;intro j s ⟨p2,p3⟩ jh;by_cases hj:j<WW
  ·obtain ⟨x,hx⟩ : ∃ x,r[j]? = some x:=⟨_,zE (by omega)⟩
   have hx':r[(j:Int).toNat]? = some x:=hx;have hsj:Bt K s:=by rw[p3];exact hsb j
   have bx:=hrb.at hx;have hM1:=K3 N.toa5 hsj bx (by omega) (by omega);have hM2:=mK N.toa5 true hsj (hsj.mul bx).2 (by omega) (by omega);have hnx:C4 (r.take (j+1))=s*(((s*x).den:Nat):Rat):=by rw[LC hx,pV,<-p3];rfl
   (repeat' ((first|(apply BR<;>intro hc<;>try (exfalso;omega))|(apply CG;omega)|(refine CX (by assumption) ?_ rfl ?_;omega)|refine KI rfl ?_|apply BA|refine BH (hM1) ?_|refine BH (hM2) ?_)<;>conv=>whnf))
   exact DE [] (by (conv=>whnf);exact ⟨rfl,rfl,rfl⟩) (jh (j+1) _ (by omega) ⟨by omega,hnx.symm⟩)
  have ej:j=WW:=by omega
  clear jh;rw[List.take_of_length_le (by omega)]at p3;subst p3;(repeat' ((first|(apply BR<;>intro hc<;>try (exfalso;omega))|apply CB|apply BA)<;>conv=>whnf))
  rw[hrl];refine GT (enc:=eO) none WW rfl (by omega) (by omega) ?_;(conv=>whnf)
  (repeat' ((first|(apply CE;omega)|fail)<;>conv=>whnf))
  refine CE (by simp) ?_;refine OO (i:=i) (by omega) (by omega) ?_;(conv=>whnf)
  (repeat' (apply CB<;>conv=>whnf))
  refine DG (λ j=>WW-j) (λ(j:Nat)=>j<=WW) (λ j=>[(53,.int .i64 j)]) (λ j=>[(231016,231016,.mx (R0.set i (some (3,(FR ((r.map (· * C4 r)).take j) WW).map eO))))]) [] [] 0 (by first|exact (by (conv=>whnf);exact ⟨rfl,rfl,rfl⟩)|(rw[List.take_zero,<-KO];exact (by (conv=>whnf);exact ⟨rfl,rfl,rfl⟩))) (by omega) ?_;intro j r2 jh;have htj:((r.map (· * C4 r)).take j).length=j:=by rw[List.length_take,List.length_map];omega
  have hlf:=JM (l:=(r.map (· * C4 r)).take j) (m:=WW) (by omega);by_cases hj:j<WW
  ·obtain ⟨x,hx⟩ : ∃ x,r[j]? = some x:=⟨_,zE (by omega)⟩
   have hx':r[(j:Int).toNat]? = some x:=hx;have bx:=hrb.at hx;have hM1:=K3 N.toa5 bx hscr (by omega) (by omega);have hs:=KP (l:=(r.map (· * C4 r)).take j) (m:=WW) (x:=x*C4 r) (by omega);rw[htj,<-LC (show (r.map (· * C4 r))[j]? = some (x*C4 r) by rw[List.getElem?_map,hx];rfl)]at hs;generalize FR ((r.map (· * C4 r)).take j) WW=W0 at *;(repeat' ((first|(apply BR<;>intro hc<;>try (exfalso;omega))|(apply CE;omega)|(refine CX (by assumption) ?_ rfl ?_;omega)|apply BA)<;>conv=>whnf))
   refine MM (by omega) (by omega) ?_;(conv=>whnf)
   (repeat' (refine BH (hM1) ?_<;>conv=>whnf))
   refine CE (by rw[List.length_map];omega) ?_;(conv=>whnf)
   skip
   refine L1 (by omega) (by omega) ?_;(conv=>whnf)
   refine G8 (enc:=eO) (some (x*C4 r)) rfl (λ e=>by cases e<;>rfl) (by omega) ?_;(conv=>whnf)
   rw[hs];refine VT (by omega) (by rw[List.length_map,List.length_map,<-hs,List.length_set]) ?_;(conv=>whnf)
   (repeat' ((first|(apply CG;omega)|fail)<;>conv=>whnf))
   exact C6 [] (jh (j+1) (by omega) (by omega))
  have ej:j=WW:=by omega
  clear jh;rw[List.take_of_length_le (by rw[List.length_map];omega),K4 (by rw[List.length_map];exact hrl),hst];have hti:((a.map C4).take i).length=i:=by rw[List.length_take,List.length_map];omega
  have hfi:=JM (l:=(a.map C4).take i) (m:=n) (by omega);have hfs:=KP (l:=(a.map C4).take i) (m:=n) (x:=C4 r) (by omega);rw[hti,<-LC hsca]at hfs;generalize FR ((a.map C4).take i) n=W1 at *;(repeat' ((first|(apply BR<;>intro hc<;>try (exfalso;omega))|(apply CE;omega)|apply BA)<;>conv=>whnf))
  refine G8 (enc:=eO) (some (C4 r)) rfl (λ e=>by cases e<;>rfl) (by omega) ?_;(conv=>whnf)
  rw[hfs];(repeat' ((first|(apply CG;omega)|fail)<;>conv=>whnf))
  exact C6 [] (ih (i+1) (by omega) (by omega))
 have ei:i=n:=by omega
 clear ih;rw[ei,XX (by simp [whole,hal]),List.take_of_length_le (by rw[List.length_map];omega),K4 (by rw[List.length_map];exact hal)];(repeat' ((first|(apply BR<;>intro hc<;>try (exfalso;omega))|apply BA)<;>conv=>whnf))
 exact DE [] (by (conv=>whnf);exact ⟨rfl,rfl,rfl⟩) hfin
theorem Alh (N:MatGLib L) (q1 q2 q3 q4:Bool) (a0 b:List (List Rat)) (ss:List Rat) (p:Nat) (a:List (List Rat)) (n WW k:Nat) {K:Nat} (hal:a.length=n) (haw : ∀ r∈a,r.length=WW) (hn:1<=n/\n<=52) (hW:WW<=104) (hab:Ms k a) (hsb0 : ∀ r∈a,∀ j,Bt K (C4 (r.take j))) (hkK:k<=K) (hKB:K<=1000000000000) {kk:List It} {Q:Tm->Mem->Prop}
  (hfin:AH L kk ([(5,.row 1231019 0 3 0 n),(4,.row 1231016 0 1 0 n)]++[(1000+39,.sl false (eM a)),(1000+38,.sl q3 (E8 q4 b)),(1000+7,.row 231019 0 3 0 p),(1000+6,.row 231016 0 1 0 p),(1000+(0+1),.sl q3 (E8 q4 b))]) ([(1231016,231016,.mx (C7 3 eQ (whole a))),(1231019,231019,.rw 3 ((a.map C4).map eQ))]++[(231016,231016,.mx (C7 3 eQ a0)),(231019,231019,.rw 3 (ss.map eQ))]) Q) :
  AH L (.lp J9.l1 :: .blk 0::kk) ([(22,.int .i64 0),(21,.int .i64 n),(20,.sl false (eM a)),(5,.row 1231019 0 3 0 n),(4,.row 1231016 0 1 0 n)]++[(1000+39,.sl false (eM a)),(1000+38,.sl q3 (E8 q4 b)),(1000+7,.row 231019 0 3 0 p),(1000+6,.row 231016 0 1 0 p),(1000+(0+1),.sl q3 (E8 q4 b))]) ([(1231016,231016,.mx (List.replicate n none)),(1231019,231019,.rw 3 ((List.replicate n none).map eO))]++[(231016,231016,.mx (C7 3 eQ a0)),(231019,231019,.rw 3 (ss.map eQ))]) Q:=by
 have hI:=LK N.toa5 1 (by omega);refine VP (l:=[_,_]) rfl ?_;refine DG (λ i=>n-i) (λ(i:Nat)=>i<=n) (λ i=>[(22,.int .i64 i)]) (λ i=>[(1231016,231016,.mx (mz (whole a) n i)),(1231019,231019,.rw 3 ((FR ((a.map C4).take i) n).map eO))]) [] [] 0 (by first|exact (by (conv=>whnf);exact ⟨rfl,rfl,rfl⟩)|(rw[<-X0 (whole a),List.take_zero,<-KO];exact (by (conv=>whnf);exact ⟨rfl,rfl,rfl⟩))) (by omega) ?_;intro i p1 ih;have hzl:=XY (Q:=whole a) p1;by_cases hi:i<n
 ·obtain ⟨r,hr⟩ : ∃ r,a[i]? = some r:=⟨_,zE (by omega)⟩
  have hr':a[(i:Int).toNat]? = some r:=hr;have hrl:=haw r (zM hr);have hrb:=hab.at hr;have hst:=XZ (Q:=whole a) (i:=i) (n:=n) (row:=r.map (· * C4 r)) (by simp [whole,hr]) hi;have hsca:(a.map C4)[i]? = some (C4 r):=by simp [hr]
  generalize mz (whole a) n i=R0 at *;have hsb : ∀ j,Bt K (C4 (r.take j)):=hsb0 r (zM hr);have hscr:=hsb WW;rw[List.take_of_length_le (by omega)]at hscr;(repeat' ((first|(apply BR<;>intro hc<;>try (exfalso;omega))|apply CB|(refine CX (by assumption) ?_ rfl ?_;omega)|apply BA|refine BH (hI) ?_)<;>conv=>whnf))
  try cases hr.symm.trans hv
  refine I3 (λ j _=>WW-j) (λ(j:Nat) (s:Rat)=>j<=WW/\s=C4 (r.take j)) (λ j _=>[(30,.int .i64 j)]) (λ_ s=>[(231008,231008,.bx (eQ s))]) [] [] 0 ((1:Int):Rat) (by (conv=>whnf);exact ⟨rfl,rfl,rfl⟩) ⟨by omega,by rw[List.take_zero];rfl⟩ ?_;intro j s ⟨p2,p3⟩ jh;by_cases hj:j<WW
  ·obtain ⟨x,hx⟩ : ∃ x,r[j]? = some x:=⟨_,zE (by omega)⟩
   have hx':r[(j:Int).toNat]? = some x:=hx;have hsj:Bt K s:=by rw[p3];exact hsb j
   have bx:=hrb.at hx;have hM1:=K3 N.toa5 hsj bx (by omega) (by omega);have hM2:=mK N.toa5 true hsj (hsj.mul bx).2 (by omega) (by omega);have hnx:C4 (r.take (j+1))=s*(((s*x).den:Nat):Rat):=by rw[LC hx,pV,<-p3];rfl
   (repeat' ((first|(apply BR<;>intro hc<;>try (exfalso;omega))|(apply CG;omega)|(refine CX (by assumption) ?_ rfl ?_;omega)|refine KI rfl ?_|apply BA|refine BH (hM1) ?_|refine BH (hM2) ?_)<;>conv=>whnf))
   exact DE [] (by (conv=>whnf);exact ⟨rfl,rfl,rfl⟩) (jh (j+1) _ (by omega) ⟨by omega,hnx.symm⟩)
  have ej:j=WW:=by omega
  clear jh;rw[List.take_of_length_le (by omega)]at p3;subst p3;(repeat' ((first|(apply BR<;>intro hc<;>try (exfalso;omega))|apply CB|apply BA)<;>conv=>whnf))
  rw[hrl];refine GT (enc:=eO) none WW rfl (by omega) (by omega) ?_;(conv=>whnf)
  (repeat' ((first|(apply CE;omega)|fail)<;>conv=>whnf))
  refine CE (by simp) ?_;refine OO (i:=i) (by omega) (by omega) ?_;(conv=>whnf)
  (repeat' (apply CB<;>conv=>whnf))
  refine DG (λ j=>WW-j) (λ(j:Nat)=>j<=WW) (λ j=>[(53,.int .i64 j)]) (λ j=>[(1231016,231016,.mx (R0.set i (some (3,(FR ((r.map (· * C4 r)).take j) WW).map eO))))]) [] [] 0 (by first|exact (by (conv=>whnf);exact ⟨rfl,rfl,rfl⟩)|(rw[List.take_zero,<-KO];exact (by (conv=>whnf);exact ⟨rfl,rfl,rfl⟩))) (by omega) ?_;intro j r2 jh;have htj:((r.map (· * C4 r)).take j).length=j:=by rw[List.length_take,List.length_map];omega
  have hlf:=JM (l:=(r.map (· * C4 r)).take j) (m:=WW) (by omega);by_cases hj:j<WW
  ·obtain ⟨x,hx⟩ : ∃ x,r[j]? = some x:=⟨_,zE (by omega)⟩
   have hx':r[(j:Int).toNat]? = some x:=hx;have bx:=hrb.at hx;have hM1:=K3 N.toa5 bx hscr (by omega) (by omega);have hs:=KP (l:=(r.map (· * C4 r)).take j) (m:=WW) (x:=x*C4 r) (by omega);rw[htj,<-LC (show (r.map (· * C4 r))[j]? = some (x*C4 r) by rw[List.getElem?_map,hx];rfl)]at hs;generalize FR ((r.map (· * C4 r)).take j) WW=W0 at *;(repeat' ((first|(apply BR<;>intro hc<;>try (exfalso;omega))|(apply CE;omega)|(refine CX (by assumption) ?_ rfl ?_;omega)|apply BA)<;>conv=>whnf))
   refine MM (by omega) (by omega) ?_;(conv=>whnf)
   (repeat' (refine BH (hM1) ?_<;>conv=>whnf))
   refine CE (by rw[List.length_map];omega) ?_;(conv=>whnf)
   skip
   refine L1 (by omega) (by omega) ?_;(conv=>whnf)
   refine G8 (enc:=eO) (some (x*C4 r)) rfl (λ e=>by cases e<;>rfl) (by omega) ?_;(conv=>whnf)
   rw[hs];refine VT (by omega) (by rw[List.length_map,List.length_map,<-hs,List.length_set]) ?_;(conv=>whnf)
   (repeat' ((first|(apply CG;omega)|fail)<;>conv=>whnf))
   exact C6 [] (jh (j+1) (by omega) (by omega))
  have ej:j=WW:=by omega
  clear jh;rw[List.take_of_length_le (by rw[List.length_map];omega),K4 (by rw[List.length_map];exact hrl),hst];have hti:((a.map C4).take i).length=i:=by rw[List.length_take,List.length_map];omega
  have hfi:=JM (l:=(a.map C4).take i) (m:=n) (by omega);have hfs:=KP (l:=(a.map C4).take i) (m:=n) (x:=C4 r) (by omega);rw[hti,<-LC hsca]at hfs;generalize FR ((a.map C4).take i) n=W1 at *;(repeat' ((first|(apply BR<;>intro hc<;>try (exfalso;omega))|(apply CE;omega)|apply BA)<;>conv=>whnf))
  refine G8 (enc:=eO) (some (C4 r)) rfl (λ e=>by cases e<;>rfl) (by omega) ?_;(conv=>whnf)
  rw[hfs];(repeat' ((first|(apply CG;omega)|fail)<;>conv=>whnf))
  exact C6 [] (ih (i+1) (by omega) (by omega))
 have ei:i=n:=by omega
 clear ih;rw[ei,XX (by simp [whole,hal]),List.take_of_length_le (by rw[List.length_map];omega),K4 (by rw[List.length_map];exact hal)];(repeat' ((first|(apply BR<;>intro hc<;>try (exfalso;omega))|apply BA)<;>conv=>whnf))
 exact DE [] (by (conv=>whnf);exact ⟨rfl,rfl,rfl⟩) hfin
theorem gQ (N:MatHLib L) (q1 q2 q3 q4:Bool) (a b:List (List Rat)) (p n w k l:Nat) (hal:a.length=p) (haw : ∀ r∈a,r.length=n) (hbl:b.length=n) (hbw : ∀ r∈b,r.length=w) (hp:1<=p/\p<=52) (hn:1<=n/\n<=52) (hw:1<=w/\w<=52) (hk:1<=k) (hl:1<=l) (hab:Ms k a) (hbb:Ms l b) (hB:n*(3^n*k+3^n*l+1)+3^n*k+3^n*l<=1000000000000) :
  Ev L 248 [.sl q1 (E8 q2 a),.sl q3 (E8 q4 b)] (.tup [.sl false (eM (EA a b w)),.int .i64 0]):=by
 have hVa:=mJ N.toMatGLib q1 q2 a p n hal haw hp hn;have hVb:=mJ N.toMatGLib q3 q4 b n w hbl hbw hn hw;have hO:=LK N.toa5 0 (by omega);have hT:=Wj N q3 q4 b n w l hbl hbw hn hw hbb (by
  have:l<=3^n*l:=Nat.le_mul_of_pos_left l (Nat.pow_pos (by omega))
  omega)
 obtain ⟨r0,hr0⟩ : ∃ r,a[0]? = some r:=⟨_,zE (by omega)⟩;have hr0':a[(0:Int).toNat]? = some r0:=hr0;have hl0:=haw r0 (zM hr0);refine Ev.x N.O8 rfl rfl ?_;(repeat' ((first|(apply BR<;>intro hc<;>try (exfalso;omega))|apply CB|(refine CX (by assumption) ?_ rfl ?_;omega)|apply BA|refine BH (hVa) ?_|refine BH (hVb) ?_)<;>conv=>whnf))
 refine HI 1000 N.J9 rfl rfl ?_;(repeat' ((first|apply CB|apply BA)<;>conv=>whnf))
 unfold E7;refine ⟨⟨by omega,by omega,by simp only[F3];omega,by omega⟩,?_⟩;rw[Int.toNat_natCast];(conv=>whnf)
 (repeat' (apply CB<;>conv=>whnf))
 rw[hal];refine GT (enc:=eO) none p rfl (by omega) (by omega) ?_;(conv=>whnf)
 (repeat' (apply CB<;>conv=>whnf))
 rw[hal];refine DE [] (by (conv=>whnf);exact ⟨rfl,rfl,rfl⟩) (Alg N.toMatGLib q1 q2 q3 q4 b a p n k hal haw hp (by omega) hab (rM hk haw hab) (rG k n) (by omega) ?_);(repeat' (apply BA<;>conv=>whnf))
 refine ⟨rfl,_,rfl,?_⟩;(conv=>whnf)
 (repeat' (refine BH (hT) ?_<;>conv=>whnf))
 have htl:=Gn b w;have htw:=Alj (w:=w) hbl;have htb:Ms l (NJ b w):=λ r hr=>by
  obtain ⟨j,hj,rfl⟩:=List.mem_map.1 hr;intro x hx;obtain ⟨s,hs,rfl⟩:=List.mem_map.1 hx;obtain ⟨e,he1⟩:=List.getElem?_of_mem hs;exact (hbb.at he1).at (OW (by rw[hbw s hs];exact List.mem_range.1 hj))
 have htat : ∀ j,j<w->(NJ b w)[j]? = some (EB b j):=λ j hj=>Gm hj
 have hQ:EA a b w=a.map λ r=>(NJ b w).map λ c=>CK r c:=by
  refine List.map_congr_left λ r _ => ?_
  rw[HZ,NJ,List.map_map];rfl
 rw[hQ];have hcl : ∀ j,(EB b j).length=n:=λ j=>by rw[bL];exact hbl
 generalize NJ b w=T at *;clear hQ hT hVa hVb hbb hbw hbl;refine HI 1000 N.J9 rfl rfl ?_;(repeat' ((first|apply CB|apply BA)<;>conv=>whnf))
 unfold E7;refine ⟨⟨by omega,by omega,by simp only[F3];omega,by omega⟩,?_⟩;rw[Int.toNat_natCast];(conv=>whnf)
 (repeat' (apply CB<;>conv=>whnf))
 rw[htl];refine GT (enc:=eO) none w rfl (by omega) (by omega) ?_;(conv=>whnf)
 (repeat' (apply CB<;>conv=>whnf))
 rw[htl];refine DE [] (by (conv=>whnf);exact ⟨rfl,rfl,rfl⟩) (Alh N.toMatGLib q1 q2 q3 q4 (whole a) b (a.map C4) p T w n l htl htw hw (by omega) htb (rM hl htw htb) (rG l n) (by omega) ?_);(repeat' (apply BA<;>conv=>whnf))
 refine ⟨rfl,_,rfl,?_⟩;(conv=>whnf)
 skip
 have hbA:=rJ hk haw hab;have hbT:=rJ hl htw htb;have hwA:=rH haw;have hwT:=rH htw;have hwl:(whole a).length=p:=by rw[whole,List.length_map];exact hal
 have hwtl:(whole T).length=w:=by rw[whole,List.length_map];exact htl
 have hkA : ∀ r∈a,Bt (3^n*k) (C4 r):=λ r hr=>(jG hk (hab r hr)).le (by rw[haw r hr];omega)
 have hkT : ∀ r∈T,Bt (3^n*l) (C4 r):=λ r hr=>(jG hl (htb r hr)).le (by rw[htw r hr];omega)
 have hatA : ∀ (i:Nat) (r:List Rat),a[i]? = some r->(whole a)[i]? = some (r.map (· * C4 r)):=λ i r hr=>by rw[whole,List.getElem?_map,hr];rfl
 have hatT : ∀ (i:Nat) (r:List Rat),T[i]? = some r->(whole T)[i]? = some (r.map (· * C4 r)):=λ i r hr=>by rw[whole,List.getElem?_map,hr];rfl
 have hscA : ∀ (i:Nat) (r:List Rat),a[i]? = some r->(a.map C4)[i]? = some (C4 r):=λ i r hr=>by rw[List.getElem?_map,hr];rfl
 have hscT : ∀ (i:Nat) (r:List Rat),T[i]? = some r->(T.map C4)[i]? = some (C4 r):=λ i r hr=>by rw[List.getElem?_map,hr];rfl
 have hatR : ∀ (i:Nat) (r:List Rat),a[i]? = some r->(a.map λ r=>T.map λ c=>CK r c)[i]? = some (T.map λ c=>CK r c):=λ i r hr=>by rw[List.getElem?_map,hr];rfl
 have hRl:(a.map λ r=>T.map λ c=>CK r c).length=p:=by rw[List.length_map];exact hal
 have hsal:(a.map C4).length=p:=by rw[List.length_map];exact hal
 have hstl:(T.map C4).length=w:=by rw[List.length_map];exact htl
 generalize whole a=A at *;generalize whole T=B at *;generalize a.map C4=sa at *;generalize T.map C4=st at *;generalize (a.map λ r=>T.map λ c=>CK r c)=R at *;generalize 3^n*k=KA at *;generalize 3^n*l=KT at *;unfold E7;refine ⟨⟨by omega,by omega,by simp only[F3];omega,by omega⟩,?_⟩;rw[Int.toNat_natCast];(conv=>whnf)
 skip
 refine DG (λ i=>p-i) (λ(i:Nat)=>i<=p) (λ i=>[(48,.int .i64 i)]) (λ i=>[(45,45,.mx (mz R p i))]) [] [] 0 (by first|exact (by (conv=>whnf);exact ⟨rfl,rfl,rfl⟩)|(rw[<-X0 R];exact (by (conv=>whnf);exact ⟨rfl,rfl,rfl⟩))) (by omega) ?_;intro i p1 ih;have hzl:=XY (Q:=R) p1;by_cases hi:i<p
 ·obtain ⟨rr,hr0⟩ : ∃ r,a[i]? = some r:=⟨_,zE (by omega)⟩
  have hrl:=haw rr (zM hr0);have hra:=hatA i rr hr0;have hrb:=hbA.at hra;have hrs:=hkA rr (zM hr0);have hsa:=hscA i rr hr0;have hst:=XZ (hatR i rr hr0) hi;have hnone:=Cz hRl hi;have hne:=pT rr;have hdot:=λ(c:List Rat) (s:Rat) (hs:s≠0)=>Ur hne hs rr c
  have hul:(rr.map (· * C4 rr)).length=n:=by rw[List.length_map];exact hrl
  have hMat : ∀ (j:Nat) (c:List Rat),T[j]? = some c->(T.map λ c=>CK rr c)[j]? = some (CK rr c):=λ j c hc=>by rw[List.getElem?_map,hc];rfl
  have hMl:(T.map λ c=>CK rr c).length=w:=by rw[List.length_map];exact htl
  generalize mz R p i=R0 at *;generalize (T.map λ c=>CK rr c)=M at *;generalize rr.map (· * C4 rr)=u at *;generalize C4 rr=su at *;(repeat' ((first|(apply BR<;>intro hc<;>try (exfalso;omega))|(apply CE;omega)|(refine HJ ?_ (λ r hr => ?_);omega)|apply BA)<;>conv=>whnf))
  cases hra.symm.trans hr;rw[show 0+((i:Nat):Int).toNat=i by omega,show (List.map eQ u).length=n by rw[List.length_map];exact hul];refine DG (λ j=>w-j) (λ(j:Nat)=>j<=w) (λ j=>[(55,.int .i64 j)]) (λ j=>[(45,45,.mx (R0.set i (iQ (M.take j))))]) [] [] 0 (by first|exact (by (conv=>whnf);exact ⟨rfl,rfl,rfl⟩)|(rw[List.take_zero,Dl,dJ hnone];exact (by (conv=>whnf);exact ⟨rfl,rfl,rfl⟩))) (by omega) ?_;intro j p2 jh;have htk:(M.take j).length=j:=by rw[List.length_take];omega
  by_cases hj:j<w
  ·obtain ⟨c,hc0⟩ : ∃ c,T[j]? = some c:=⟨_,zE (by omega)⟩
   have hclen:=htw c (zM hc0);have hcB:=hatT j c hc0;have hcb:=hbT.at hcB;have hcs:=hkT c (zM hc0);have hstc:=hscT j c hc0;have hne2:=pT c;have hdc:=hdot c (C4 c) hne2;have hts:=TC (hMat j c hc0);have hvl:(c.map (· * C4 c)).length=n:=by rw[List.length_map];exact hclen
   generalize c.map (· * C4 c)=v0 at *;generalize C4 c=sv at *;generalize CK rr c=dd at *;have htk1:(M.take (j+1)).length=j+1:=by rw[List.length_take];omega
   generalize hM0:M.take j=M0 at *;(repeat' ((first|(apply BR<;>intro hc<;>try (exfalso;omega))|(apply CE;omega)|(refine HJ ?_ (λ r hr => ?_);omega)|apply BA|refine BH (hO) ?_)<;>conv=>whnf))
   cases hcB.symm.trans hr;rw[show 0+((j:Nat):Int).toNat=j by omega,show (List.map eQ v0).length=n by rw[List.length_map];exact hvl];have hRi:=PM (z:=3) hra;have hRj:=PM (z:=3) hcB;have hkk:KA+KT+1<=n*(KA+KT+1):=Nat.le_mul_of_pos_left _ (by omega);refine DG (λ t=>n-t) (λ(t:Nat)=>t<=n) (λ t=>[(63,.int .i64 t)]) (λ t=>[(15,15,.bx (eQ (CK (u.take t) (v0.take t))))]) [] [] 0 (by first|exact (by (conv=>whnf);exact ⟨rfl,rfl,rfl⟩)|(rw[List.take_zero,List.take_zero];exact (by (conv=>whnf);exact ⟨rfl,rfl,rfl⟩))) (by omega) ?_;intro t p3 th;by_cases ht:t<n
   ·obtain ⟨x,hx⟩ : ∃ x,u[t]? = some x:=⟨_,zE (by omega)⟩
    obtain ⟨y,hy⟩ : ∃ x,v0[t]? = some x:=⟨_,zE (by omega)⟩;have hdb2:=(hrb.take t).dot (hcb.take t);rw[List.length_take,Nat.min_eq_left (by omega)]at hdb2;have htn:t*(KA+KT+1)<=n*(KA+KT+1):=Nat.mul_le_mul_right _ (by omega);have hMu:=K3 N.toa5 (hrb.at hx) (hcb.at hy) (by omega) (by omega);have hAd:=cB N.toa5 hdb2 ((hrb.at hx).mul (hcb.at hy)) (by omega) (by omega);rw[<-bR hx hy]at hAd;generalize CK (u.take t) (v0.take t)=d0 at *;generalize hd1:CK (u.take (t+1)) (v0.take (t+1))=d1 at hAd;generalize x*y=xy at *;(repeat' ((first|(apply BR<;>intro hc<;>try (exfalso;omega))|(apply CE;omega)|apply BA)<;>conv=>whnf))
    refine Y4 hRi ?_;(conv=>whnf)
    (repeat' ((first|(apply CE;omega)|(refine HX ?_ (λ_=>rfl) (λ v hv => ?_);omega))<;>conv=>whnf))
    cases hx.symm.trans hv;skip
    refine Y4 hRj ?_;(conv=>whnf)
    (repeat' ((first|(refine HX ?_ (λ_=>rfl) (λ v hv => ?_);omega)|fail)<;>conv=>whnf))
    cases hy.symm.trans hv;(repeat' ((first|(apply CG;omega)|refine BH (hMu) ?_|refine BH (hAd) ?_)<;>conv=>whnf))
    subst hd1;exact C6 [] (th (t+1) (by omega) (by omega))
   ·have et:t=n:=by omega
    clear th;have hdt:=(hrb.dot hcb);rw[hul]at hdt;rw[et,XF hul];have hm0:su*sv≠0:=λ e=>by
     rcases Rat.mul_eq_zero.1 e with e|e
     ·exact hne e
     ·exact hne2 e
    have hMu:=K3 N.toa5 hrs hcs (by omega) (by omega);have hDi:=gO N.toa5 hdt (hrs.mul hcs) (by omega) (by omega) hm0;rw[hdc]at hDi;(repeat' ((first|(apply BR<;>intro hc<;>try (exfalso;omega))|(apply CE;omega)|(refine HX ?_ (λ_=>rfl) (λ v hv => ?_);omega)|apply BA)<;>conv=>whnf))
    rename_i vA hvA;cases hsa.symm.trans hvA;cases hstc.symm.trans hv;(repeat' ((first|(apply CE;omega)|refine BH (hMu) ?_|refine BH (hDi) ?_)<;>conv=>whnf))
    by_cases hj0:j=0
    ·subst hj0
     rw[List.take_zero]at hM0;subst hM0;rw[Dl,dJ hnone];refine sG (r:=none) (by rw[Nat.zero_add,Int.toNat_natCast];exact hnone) ?_;(conv=>whnf)
     (repeat' (apply G0<;>conv=>whnf))
     refine Y1 (enc:=eQ) dd rfl rfl (by omega) ?_;(conv=>whnf)
     (repeat' ((first|(apply CE;omega)|fail)<;>conv=>whnf))
     refine CE rfl ?_;refine OO (i:=i) (by omega) (by omega) ?_;(conv=>whnf)
     (repeat' ((first|(apply CG;omega)|fail)<;>conv=>whnf))
     have hq:(some (3,[dd].map eQ):Option (Nat × List (List AV)))=iQ (M.take (0+1)):=by rw[hts];exact (iR (by simp)).symm
     rw[hq];exact C6 [] (jh (0+1) (by omega) (by omega))
    ·rw[iR (by omega)]
     refine MM (by omega) (by omega) ?_;(conv=>whnf)
     (repeat' (apply G0<;>conv=>whnf))
     refine L1 (by omega) (by omega) ?_;(conv=>whnf)
     refine HP (enc:=eQ) dd rfl (by rw[List.length_map]) rfl (by omega) (by omega) ?_;intro s' v;rw[<-hts,htk1];(conv=>whnf)
     (repeat' ((first|(apply CE;omega)|fail)<;>conv=>whnf))
     refine CE ⟨rfl,by rw[List.length_map];omega⟩ ?_;refine OO (i:=i) (by omega) (by rw[List.length_set,List.length_set];omega) ?_;rw[show 0+((i:Int)).toNat=i by omega,List.set_set,List.set_set,<-iR (by omega)];(conv=>whnf)
     (repeat' ((first|(apply CG;omega)|fail)<;>conv=>whnf))
     exact C6 [] (jh (j+1) (by omega) (by omega))
  ·have ej:j=w:=by omega
   clear jh;rw[ej,List.take_of_length_le (by omega),iR (by omega),hst];(repeat' ((first|(apply BR<;>intro hc<;>try (exfalso;omega))|(apply CG;omega)|apply BA)<;>conv=>whnf))
   exact C6 [] (ih (i+1) (by omega) (by omega))
 ·have ei:i=p:=by omega
  clear ih;rw[ei,XX hRl];(repeat' ((first|(apply BR<;>intro hc<;>try (exfalso;omega))|apply BA)<;>conv=>whnf))
  refine NT (λ_=>rfl) rfl (by omega) ?_;(conv=>whnf)
  exact CJ rfl (TU R 0)
theorem Vz (N:SimGLib L) (n1:L.num 289=55) (q:Bool) (b:List Rat) (n k:Nat) (hbl:b.length=n) (hb:Bs k b) (hk:k<2199023255552) (hn:n<=100):Ev L 291 [.sl q (b.map eQ)] (.sl false (eM (b.map λ x=>[x]))):=by
 refine Ev.x N.S4 rfl rfl ?_;(repeat' (apply BA<;>conv=>whnf))
 refine HI 1000 N.S8 rfl rfl ?_;(repeat' ((first|apply CB|apply BA)<;>conv=>whnf))
 unfold E7;refine ⟨⟨by omega,by omega,by simp only[F3];omega,by omega⟩,?_⟩;rw[Int.toNat_natCast,hbl];(conv=>whnf)
 (repeat' (apply CB<;>conv=>whnf))
 refine DG (λ i=>n-i) (λ(i:Nat)=>i<=n) (λ i=>[(13,.int .i64 i)]) (λ i=>[(290010,290010,.mx (fz none ((b.take i).map T9) n))]) [] [] 0 (by first|exact (by (conv=>whnf);exact ⟨rfl,rfl,rfl⟩)|(rw[List.take_zero];exact (by (conv=>whnf);exact ⟨rfl,rfl,rfl⟩))) (by omega) ?_;intro i p1 ih;have hfl:=gY (z:=(none:Option (Nat × List (List AV)))) (l:=(b.take i).map T9) (m:=n) (by rw[List.length_map,List.length_take];omega);by_cases hi:i<n
 ·obtain ⟨x,hx⟩ : ∃ x,b[i]? = some x:=⟨_,zE (by omega)⟩
  have hx':b[(i:Int).toNat]? = some x:=hx;have hT:=XM N.toa5 (hb.at hx) hk;have hfs:=gZ (z:=(none:Option (Nat × List (List AV)))) (x:=T9 x) (l:=(b.take i).map T9) (m:=n) (by rw[List.length_map,List.length_take];omega);rw[List.length_map,List.length_take,Nat.min_eq_left (by omega),show (b.take i).map T9++[T9 x]=(b.take (i+1)).map T9 by rw[List.take_add_one,hx,List.map_append];rfl]at hfs;generalize fz (none:Option (Nat × List (List AV))) ((b.take i).map T9) n=J at *;have hfs2:J.set i (some (3,[[AV.bool (decide (x.num<0)),AV.sl false ((dg x.num.natAbs).map BZ),AV.sl false ((dg x.den).map BZ)]]))=fz none ((b.take (i+1)).map T9) n:=hfs;(repeat' ((first|(apply BR<;>intro hc<;>try (exfalso;omega))|(apply CE;omega)|(refine CX (by assumption) ?_ rfl ?_;omega)|apply BA)<;>conv=>whnf))
  refine HI 1000 N.S5 rfl rfl ?_;(repeat' ((first|apply BA|refine BH (hT) ?_)<;>conv=>whnf))
  refine ⟨rfl,_,rfl,?_⟩;(conv=>whnf)
  (repeat' ((first|(apply CE;omega)|fail)<;>conv=>whnf))
  unfold B1 EP;refine ⟨by simp,by omega,?_⟩;(conv=>whnf)
  rw[show 0+((i:Int)).toNat=i by omega,hfs2];(repeat' ((first|(apply CG;omega)|fail)<;>conv=>whnf))
  exact C6 [] (ih (i+1) (by omega) (by omega))
 have ei:i=n:=by omega
 clear ih hfl;rw[ei,List.take_of_length_le (by omega),gX (by rw[List.length_map];exact hbl),show b.map T9=C7 3 eQ (b.map λ x=>[x]) by rw[C7,List.map_map];rfl];(repeat' ((first|(apply BR<;>intro hc<;>try (exfalso;omega))|apply BA)<;>conv=>whnf))
 refine ⟨rfl,_,rfl,?_⟩;(conv=>whnf)
 (repeat' ((refine NT (λ_=>rfl) rfl ?_ ?_;(first|rfl|simp))<;>conv=>whnf))
 ·exact hbl.symm
 (conv=>whnf)
 exact CJ rfl (tT _)
theorem Wb (N:SimGLib L) (q:Bool) (x:Rat):Ev L 287 [.sl q [eQ x]] (.agg (eQ x)):=by
 have hx0:[x][(0:Int).toNat]? = some x:=rfl;suffices h:Ev L 287 [.sl q ([x].map eQ)] (.agg (eQ x)) from h
 refine Ev.x N.SZ rfl rfl ?_;(repeat' ((first|(refine CX (by assumption) ?_ rfl ?_;omega)|apply BA)<;>conv=>whnf))
 exact CJ rfl (G4 _)
theorem Ns {n:Nat} (h1:1<=n) (hn:n<=3):6^n*(3^(n+n)*4)<=1000000000000/\HQ (6^n*(3^(n+n)*4)) n n<=1000000000000/\HQ (6^n*(3^(n+n)*4)) n n+6^n*(3^(n+n)*4)<=1000000000:=by
 obtain rfl|rfl|rfl:n=1\/n=2\/n=3:=by omega
 all_goals decide
theorem iD {n k l w:Nat} (h1:1<=n) (hn:n<=3) (hk:k<=100) (hl:l<=100) (hw:w=n):w*(3^n*k+3^n*l+1)+3^n*k+3^n*l<=1000000000000:=by
 subst hw;obtain rfl|rfl|rfl:w=1\/w=2\/w=3:=by omega
 all_goals omega
theorem AjZ (T:List (List Rat)) (b:List Rat) (n:Nat) (hT : ∀ r∈T,r.length=n) (hb:b.length=n):EA T (b.map λ x=>[x]) 1=(CO T b).map λ x=>[x]:=by
 rw[EA,CO,List.map_map];refine List.map_congr_left λ r _ => ?_
 show [CK r (EB (b.map λ x=>[x]) 0)]=[CK r b];rw[EB,List.map_map];have:b.map ((λ r:List Rat=>r.getD 0 0) ∘ λ x=>[x])=b:=by
  conv=>rhs;rw[<-List.map_id b]
  exact List.map_congr_left λ x _=>rfl
 rw[this]
theorem Sn (N:SimGLib L) (n1:L.num 289=55) (n2:L.num 287=20) (S:GU) (T:List (List Rat)) (n:Nat) (hS:S.Ok n 4) (hT:Sq n T) (hTb:Ms 4 T) (hn:n<=3) :
  ∃ v,Ev L 292 [.agg (eS S),.sl false (eM T)] v/\((¬ NS n T/\v = .tup [.agg [.sl false [],.sl false [],.sl false [],.bool false,.sl false [],.sl false []],.int .i64 11])\/(NS n T /\ ∃ U:List (List Rat),Sq n U/\(∀ v:List Rat,v.length=n->CO U (CO T v)=v)/\(∀ v:List Rat,v.length=n->CO T (CO U v)=v)/\v = .tup [.agg (eS (IG T U S n)),.int .i64 0])):=by
 have hSm:=Uy N.toEquGLib S n 4 hS (by omega);have hla:=hS.la;have htl:=hT.l;have hTr:=XM N.toa5 hS.bd (by omega);have hT0 : ∀ i,i<n -> ∃ r,T[i]? = some r/\r.length=n:=λ i hi=>by
  obtain ⟨r,hr⟩ : ∃ r,T[i]? = some r:=⟨_,zE (by omega)⟩;exact ⟨r,hr,hT.r r (zM hr)⟩
 refine Ev.xE N.SY rfl rfl ?_;(repeat' ((first|(apply BR<;>intro hc<;>try (exfalso;omega))|apply CB|apply BA|refine BH (hSm) ?_)<;>conv=>whnf))
 refine DG (λ i=>n-i) (λ(i:Nat)=>i<=n) (λ i=>[(34,.int .i64 i)]) (λ_=>[]) [] [] 0 (by (conv=>whnf);exact ⟨rfl,rfl,rfl⟩) (by omega) ?_;intro i i1 ih;by_cases hi:i<n
 ·obtain ⟨r,hr,hrl⟩:=hT0 i hi
  have hr':T[(i:Int).toNat]? = some r:=hr;(repeat' ((first|(apply BR<;>intro hc<;>try (exfalso;omega))|(apply CG;omega)|apply CB|(refine CX (by assumption) ?_ rfl ?_;omega)|apply BA)<;>conv=>whnf))
  exact C6 [] (ih (i+1) (by omega) (by omega))
 have ei:i=n:=by omega
 clear ih i1 hi;by_cases h0:n=0
 ·(repeat' ((first|(apply BR<;>intro hc<;>try (exfalso;omega))|apply BA|refine BH (hTr) ?_)<;>conv=>whnf))
  have eS0:eS S=[.sl false [],.sl false [],.sl false []]++eQ S.d:=by
   have e1:S.a=[]:=List.length_eq_zero_iff.1 (by omega);have e2:S.b=[]:=List.length_eq_zero_iff.1 (by rw[hS.lb];omega);have e3:S.c=[]:=List.length_eq_zero_iff.1 (by rw[hS.lc];omega);rw[eS,e1,e2,e3];rfl
  have hcl:=bC S 0;have hT0:T=[]:=List.length_eq_zero_iff.1 (by omega);have hsim:IG T [] S n=S:=by
   have e1:S.a=[]:=List.length_eq_zero_iff.1 (by omega);have e2:S.b=[]:=List.length_eq_zero_iff.1 (by rw[hS.lb];omega);have e3:S.c=[]:=List.length_eq_zero_iff.1 (by rw[hS.lc];omega);rw[IG,hT0];show (⟨[],[],[],S.d⟩:GU)=S;cases S;simp only at e1 e2 e3;rw[e1,e2,e3]
  refine ⟨.tup [.agg (eS S),.int .i64 0],?_,Or.inr ⟨λ X hX _ j=>by rw[List.length_eq_zero_iff.1 (hX.trans h0)];rfl,[],⟨by rw[h0];rfl,λ r hr=>by cases hr⟩,λ v hv=>by rw[List.length_eq_zero_iff.1 (hv.trans h0)];rfl,λ v hv=>by rw[List.length_eq_zero_iff.1 (hv.trans h0),hT0];rfl,by rw[hsim]⟩⟩;rw[eS0]at hcl ⊢;exact CJ rfl hcl
 ·obtain ⟨c1,c2,c3⟩:=Ns (n:=n) (by omega) hn
  obtain ⟨v,hI,hv0⟩:=Tq N.toMatGLib false false T n 4 hT.l hT.r (by omega) (by omega) hTb c1 c2 c3;rcases hv0 with ⟨hns,rfl⟩|⟨hns,U,rfl,hUl,hUw,_,hTU0,hUT0⟩
  ·(repeat' ((first|(apply BR<;>intro hc<;>try (exfalso;omega))|apply BA|refine BH (hI) ?_)<;>conv=>whnf))
   exact ⟨.tup [.agg [.sl false [],.sl false [],.sl false [],.bool false,.sl false [],.sl false []],.int .i64 11],CJ rfl (by simp [CS,FG,IO]),Or.inl ⟨hns,rfl⟩⟩
  ·have hUs:Sq n U:=⟨hUl,hUw⟩
   have hUT : ∀ v:List Rat,v.length=n->CO U (CO T v)=v:=λ v hv=>by rw[<-MC _ _ _ hT.r,hUT0,XW hv]
   have hTU : ∀ v:List Rat,v.length=n->CO T (CO U v)=v:=λ v hv=>by rw[<-MC _ _ _ hUw,hTU0,XW hv]
   have hUb:=nX hn hT hUs hTb hUT;obtain ⟨hOk,hM1⟩:=qB hS hT hUs hTb hUb hn;have hT1:=λ q1 q2 q3 q4=>gQ N.toMatHLib q1 q2 q3 q4 T S.a n n n 4 4 hT.l hT.r hS.la hS.lr (by omega) (by omega) (by omega) (by omega) (by omega) hTb hS.ba (iD (by omega) hn (by omega) (by omega) rfl)
   have hT2:=λ q1 q2 q3 q4=>gQ N.toMatHLib q1 q2 q3 q4 (EA T S.a n) U n n n 27 82 (Sq.mul hT.l S.a).l (Sq.mul hT.l S.a).r hUl hUw (by omega) (by omega) (by omega) (by omega) (by omega) hM1 hUb (iD (by omega) hn (by omega) (by omega) rfl)
   have hCo:=Vz N n1 false S.b n 4 hS.lb hS.bb (by omega) (by omega);have hbm:Ms 4 (S.b.map λ x=>[x]):=λ r hr=>by
    obtain ⟨x,hx,rfl⟩:=List.mem_map.1 hr;intro z hz;obtain rfl:=List.mem_singleton.1 hz;exact hS.bb z hx
   have hT3:=λ q1 q2 q3 q4=>gQ N.toMatHLib q1 q2 q3 q4 T (S.b.map λ x=>[x]) n n 1 4 4 hT.l hT.r (by rw[List.length_map];exact hS.lb) (λ r hr=>by obtain ⟨x,_,rfl⟩:=List.mem_map.1 hr;rfl) (by omega) (by omega) (by omega) (by omega) (by omega) hTb hbm (iD (by omega) hn (by omega) (by omega) rfl)
   have hcm:Ms 4 [S.c]:=λ r hr=>by
    obtain rfl:=List.mem_singleton.1 hr;exact hS.bc
   have hT4:=λ q1 q2 q3 q4=>gQ N.toMatHLib q1 q2 q3 q4 [S.c] U 1 n n 4 82 rfl (λ r hr=>by obtain rfl:=List.mem_singleton.1 hr;exact hS.lc) hUl hUw (by omega) (by omega) (by omega) (by omega) (by omega) hcm hUb (iD (by omega) hn (by omega) (by omega) rfl)
   rw[AjZ T S.b n hT.r hS.lb]at hT3;rw[show EA [S.c] U n=[CO (KE U) S.c] by rw[Gt hUs];rfl]at hT4;have hfl0:(CO T S.b).length=n:=by rw[K7,htl]
   have hfin:=bC (IG T U S n) 0;have hE:eS (IG T U S n)=[.sl false (eM (EA (EA T S.a n) U n)),.sl false ((CO T S.b).map eQ),.sl false ((CO (KE U) S.c).map eQ)]++eQ S.d:=rfl;generalize EA (EA T S.a n) U n=A2 at *;generalize EA T S.a n=A1 at *;generalize CO (KE U) S.c=C2 at *;generalize CO T S.b=B2 at *;have hC0:[C2][(0:Int).toNat]? = some C2:=rfl;(repeat' ((first|(apply BR<;>intro hc<;>try (exfalso;omega))|refine KI rfl ?_|apply BA|refine BH (hI) ?_|refine BH (hT1 _ _ _ _) ?_|refine BH (hT2 _ _ _ _) ?_|refine BH (hCo) ?_|refine BH (hT3 _ _ _ _) ?_|refine BH (hT4 _ _ _ _) ?_)<;>conv=>whnf))
   refine HI 1000 N.S7 rfl rfl ?_;(repeat' ((first|apply CB|apply BA)<;>conv=>whnf))
   have hRl:(B2.map λ x=>[x]).length=n:=by rw[List.length_map];exact hfl0
   have hRa : ∀ (e:Nat) (x:Rat),B2[e]? = some x->(B2.map λ x=>[x])[e]? = some [x]:=λ e x hx=>by rw[List.getElem?_map,hx];rfl
   generalize (B2.map λ x=>[x])=R at *;rw[hRl];refine GT (enc:=eO) none n rfl rfl (by omega) ?_;(conv=>whnf)
   (repeat' (apply CB<;>conv=>whnf))
   refine DG (λ e=>n-e) (λ(e:Nat)=>e<=n) (λ e=>[(13,.int .i64 e)]) (λ e=>[(288010,288010,.rw 3 ((FR (B2.take e) n).map eO))]) [] [] 0 (by first|exact (by (conv=>whnf);exact ⟨rfl,rfl,rfl⟩)|(rw[List.take_zero,<-KO];exact (by (conv=>whnf);exact ⟨rfl,rfl,rfl⟩))) (by omega) ?_;intro e p2 eh;have hlf:=JM (l:=B2.take e) (m:=n) (by rw[List.length_take];omega);by_cases he2:e<n
   ·obtain ⟨x,hx⟩ : ∃ x,B2[e]? = some x:=⟨_,zE (by omega)⟩
    have hst:=KP (l:=B2.take e) (m:=n) (x:=x) (by rw[List.length_take];omega);rw[List.length_take,Nat.min_eq_left (by omega),<-LC hx]at hst;have hRe:=hRa e x hx;have hRe':R[(e:Int).toNat]? = some [x]:=hRe;have hF:=λ q=>Wb N q x
    generalize FR (B2.take e) n=F0 at *;(repeat' ((first|(apply BR<;>intro hc<;>try (exfalso;omega))|(apply CE;omega)|(refine CX (by assumption) ?_ rfl ?_;omega)|apply BA|refine BH (hF _) ?_)<;>conv=>whnf))
    refine G8 (enc:=eO) (some x) rfl (λ e=>by cases e<;>rfl) (by omega) ?_;(conv=>whnf)
    rw[hst];(repeat' ((first|(apply CG;omega)|fail)<;>conv=>whnf))
    exact C6 [] (eh (e+1) (by omega) (by omega))
   have ee:e=n:=by omega
   clear eh;rw[ee,List.take_of_length_le (by omega),K4 hfl0];(repeat' ((first|(apply BR<;>intro hc<;>try (exfalso;omega))|apply BA)<;>conv=>whnf))
   refine ⟨rfl,_,rfl,?_⟩;(conv=>whnf)
   (repeat' ((first|(refine CX (by assumption) ?_ rfl ?_;omega)|refine BH (hTr) ?_)<;>conv=>whnf))
   refine ⟨.tup [.agg (eS (IG T U S n)),.int .i64 0],?_,Or.inr ⟨hns,U,hUs,hUT,hTU,rfl⟩⟩;rw[hE]at hfin ⊢;(conv=>whnf)
   refine GI (enc:=eQ) (λ_=>rfl) rfl hfl0.symm ?_;(conv=>whnf)
   exact CJ rfl hfin
end Go.Eng
