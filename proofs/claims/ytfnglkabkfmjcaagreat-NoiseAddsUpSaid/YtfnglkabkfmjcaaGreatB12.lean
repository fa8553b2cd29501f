/-
  The inverse of a matrix by the reduced echelon form of the matrix beside the identity, plain.
-/
import Derived.Test.YtfnglkabkfmjcaaGreatB11
import Derived.Test.YtfnglkabkfmjcaaGreatB10
import Derived.Test.YtfnglkabkfmjcaaGreatB9
import Derived.Test.YtfnglkabkfmjcaaGreatB4
import Derived.Test.YtfnglkabkfmjcaaGreatB1
import Derived.Test.YtfnglkabkfmjcaaGreatB7
set_option linter.unusedSimpArgs false
set_option linter.unusedVariables false
set_option linter.unnecessarySimpa false
namespace Go.c9
def kb (f:Rat) (r t:List Rat):List Rat:=List.zipWith (λ x y=>x-f*y) r t
theorem jS {f:Rat} {r t:List Rat} (h:r.length=t.length):(kb f r t).length=r.length:=by simp [kb,h]
theorem sX {f:Rat} {r t:List Rat} {j:Nat} {x y:Rat} (hx:r[j]? = some x) (hy:t[j]? = some y):(kb f r t)[j]? = some (x-f*y):=by
 simp [kb,List.getElem?_zipWith,hx,hy]
theorem sZ {f:Rat} : ∀ {r t:List Rat} {z:Rat},z∈kb f r t -> ∃ x∈r,∃ y∈t,z=x-f*y
 | [],_,z,h=>by simp [kb]at h
 | _::_,[],z,h=>by simp [kb]at h
 | x::r,y::t,z,h=>by
  simp only[kb,List.zipWith_cons_cons,List.mem_cons]at h;rcases h with rfl|h
  ·exact ⟨x,by simp,y,by simp,rfl⟩
  ·obtain ⟨a,ha,b,pz,e⟩:=sZ h
   exact ⟨a,by simp [ha],b,by simp [pz],e⟩
theorem jR (f:Rat) : ∀ (r t X:List Rat),r.length=t.length->A0 (kb f r t) X=A0 r X-f*A0 t X
 | [],[],X,_=>by
  show A0 [] X=_;simp only[A0];grind
 | x::r,y::t,[],_=>by
  simp only[kb,List.zipWith_cons_cons,A0];grind
 | x::r,y::t,z::X,h=>by
  have ih:=jR f r t X (by simpa using h);simp only[kb]at ih;simp only[kb,List.zipWith_cons_cons,A0,ih];grind
theorem sY {f:Rat} {r t:List Rat} (h:r.length=t.length) (j:Nat):(kb f r t).getD j 0=r.getD j 0-f*t.getD j 0:=by
 rw[List.getD_eq_getElem?_getD,List.getD_eq_getElem?_getD,List.getD_eq_getElem?_getD];cases hx:r[j]? with
 | none =>
  have h1:=List.getElem?_eq_none_iff.1 hx;rw[List.getElem?_eq_none (by rw[jS h];exact h1),List.getElem?_eq_none (l:=t) (by omega)];show (0:Rat)=0-f*0;grind
 | some x =>
  have h1:=(zS hx).1;obtain ⟨y,hy⟩ : ∃ y,t[j]? = some y:=⟨_,zE (by omega)⟩;rw[sX hx hy,hy];rfl
theorem tZ (l:List Rat) (p:Rat) (j:Nat):(l.map (· / p)).getD j 0=l.getD j 0/p:=by
 rw[List.getD_eq_getElem?_getD,List.getD_eq_getElem?_getD,List.getElem?_map];cases l[j]? with
 | none=>show (0:Rat)=0/p;rw[Rat.div_def,Rat.zero_mul]
 | some x=>rfl
theorem kF (p:Rat) : ∀ (r X:List Rat),A0 (r.map (· / p)) X=A0 r X/p
 | [],X=>by
  show A0 [] X=A0 [] X/p;simp only[A0,Rat.div_def];grind
 | x::r,[]=>by simp only[List.map_cons,A0,Rat.div_def];grind
 | x::r,z::X=>by
  have ih:=kF p r X;simp only[Rat.div_def]at ih;simp only[List.map_cons,A0,ih,Rat.div_def];grind
theorem dU {n i:Nat} {v:List Rat} (hv:v.length=n) (hi:i<n):A0 (E5 n i) v=v.getD i 0:=by
 have e:=congrArg (λ l=>l.getD i 0) (Ajn hv);simp only[D5,lZ,List.map_map]at e;rw[eJ,if_pos hi]at e;exact e
structure EL (T B:List (List Rat)) (n W:Nat) (m:List (List Rat)) (k c:Nat):Prop where
 len:m.length=n
 wid : ∀ r∈m,r.length=n+W
 kt : ∀ w:List Rat,EV (CO T B) w->EV m w
 kr : ∀ w:List Rat,EV m w->EV (CO T B) w
 le:k<=c
 cn:c<=n
 z9:k=c -> ∀ (i:Nat) (r:List Rat),m[i]? = some r -> ∀ j,j<c->r.getD j 0=if i=j then 1 else 0
 sk:k<c -> ¬ NS n T
theorem EL.start {T B:List (List Rat)} {n W:Nat} (hT:Sq n T) (hB:B.length=n) (hW : ∀ r∈B,r.length=W):EL T B n W (CO T B) 0 0:=by
 refine ⟨?_,?_,λ_ h=>h,λ_ h=>h,Nat.le_refl _,Nat.zero_le _,λ_ _ _ _ j h=>absurd h (by omega),λ h=>absurd h (by omega)⟩
 ·rw[CO,List.length_zipWith,hT.l,hB,Nat.min_self]
 ·intro r hr
  obtain ⟨i,hi⟩:=List.getElem?_of_mem hr;rw[CO,List.getElem?_zipWith]at hi;cases ht:T[i]? with
  | none=>rw[ht]at hi;cases hi
  | some t =>
   cases hb:B[i]? with
   | none=>rw[ht,hb]at hi;cases hi
   | some b =>
    rw[ht,hb]at hi;obtain rfl:=Option.some.inj hi;rw[List.length_append,hT.at ht,hW b (zM hb)]
theorem EL.ns {T B:List (List Rat)} {W:Nat} {n c:Nat} {m:List (List Rat)} (h:EL T B n W m c c) (hT:Sq n T) (Um:B.length=n) (hc:c<n) (hz : ∀ (q:Nat) (r:List Rat),c<=q->m[q]? = some r->r.getD c 0=0) : ¬ NS n T:=by
 intro fr;have dk:=h.len;have tt:((m.take c).map λ r => -1*r.getD c 0).length=c:=by rw[List.length_map,List.length_take];omega
 have On : ∀ (i:Nat) (r:List Rat),i<c->m[i]? = some r->((m.take c).map λ r => -1*r.getD c 0).getD i 0 = -1*r.getD c 0:=λ i r hi hr=>by
  rw[List.getD_eq_getElem?_getD,List.getElem?_map,List.getElem?_take,if_pos hi,hr];rfl
 generalize ((m.take c).map λ r => -1*r.getD c 0)=x at *;have iw:(x++1::List.replicate (n-c-1) (0:Rat)).length=n:=by simp [tt];omega
 have hK:EV m ((x++1::List.replicate (n-c-1) (0:Rat))++List.replicate W 0):=by
  intro r hr;obtain ⟨i,hi⟩:=List.getElem?_of_mem hr;have w9:=(zS hi).1;have ax:=h.wid r hr;have e1:r=(r.take c++r.getD c 0::(r.drop (c+1)).take (n-c-1))++r.drop n:=by
   have e3:r.take n=r.take c++r.getD c 0::(r.drop (c+1)).take (n-c-1):=by
    have e4:(r.drop c).take (n-c)=r.getD c 0::(r.drop (c+1)).take (n-c-1):=by
     rw[List.drop_eq_getElem_cons (show c<r.length by omega),show n-c=(n-c-1)+1 by omega,List.take_succ_cons,List.getD_eq_getElem?_getD,zE (by omega)];simp
    rw[<-e4,<-List.take_add,show c+(n-c)=n by omega]
   rw[<-e3,List.take_append_drop]
  rw[e1,O3 _ _ _ _ (by simp [tt];omega),VE,O3 _ _ _ _ (by rw[List.length_take,tt];omega),A0,VE];by_cases Ix:i<c
  ·have e2:r.take c=E5 c i:=by
    refine List.ext_getElem? λ j => ?_
    by_cases hj:j<c
    ·obtain ⟨y,hy⟩ : ∃ y,r[j]? = some y:=⟨_,zE (by omega)⟩
     have h3:=h.z9 rfl i r hi j hj;rw[List.getD_eq_getElem?_getD,hy]at h3;rw[List.getElem?_take,if_pos hj,hy,E5,List.getElem?_map,List.getElem?_range hj];show some y=some (if (j:Int)=(i:Int) then (1:Rat) else 0);rw[show y=(if i=j then 1 else 0:Rat) from h3];by_cases h5:i=j
     ·rw[if_pos h5,if_pos (by omega)]
     ·rw[if_neg h5,if_neg (by omega)]
    ·rw[List.getElem?_eq_none (by rw[List.length_take];omega),List.getElem?_eq_none (by rw[iC];omega)]
   rw[e2,dU tt Ix,On i r Ix hi];grind
  ·have e2:r.take c=List.replicate c 0:=by
    refine List.ext_getElem? λ j => ?_
    by_cases hj:j<c
    ·obtain ⟨y,hy⟩ : ∃ y,r[j]? = some y:=⟨_,zE (by omega)⟩
     have h3:=h.z9 rfl i r hi j hj;rw[List.getD_eq_getElem?_getD,hy,if_neg (by omega)]at h3;rw[List.getElem?_take,if_pos hj,hy,List.getElem?_replicate,if_pos hj];exact congrArg some h3
    ·rw[List.getElem?_eq_none (by rw[List.length_take];omega),List.getElem?_eq_none (by simp;omega)]
   rw[e2,YB,hz i r (by omega) hi];grind
 have Ab:=h.kr _ hK;have hKT:EV T (x++1::List.replicate (n-c-1) (0:Rat)):=by
  intro t ht;obtain ⟨i,hi⟩:=List.getElem?_of_mem ht;have w9:=(zS hi).1;rw[hT.l]at w9;obtain ⟨b,hb⟩ : ∃ b,B[i]? = some b:=⟨_,zE (by omega)⟩;have h1:=Ab (t++b) (zM (i:=i) (by
   rw[CO,List.getElem?_zipWith,hi,hb]))
  rw[O3 _ _ _ _ (by rw[hT.at hi,iw]),VE,Rat.add_zero]at h1;exact h1
 have h1:=fr _ iw hKT c;rw[List.getD_eq_getElem?_getD,List.getElem?_append_right (by omega),tt,Nat.sub_self]at h1;exact absurd (show (1:Rat)=0 from h1) (by decide)
theorem EL.skip {T B:List (List Rat)} {W:Nat} {n k c:Nat} {m:List (List Rat)} (h:EL T B n W m k c) (hT:Sq n T) (Um:B.length=n) (hc:c<n) (hz : ∀ (q:Nat) (r:List Rat),k<=q->m[q]? = some r->r.getD c 0=0):EL T B n W m k (c+1):=by
 refine ⟨h.len,h.wid,h.kt,h.kr,Nat.le_succ_of_le h.le,hc,λ e=>absurd h.le (by omega),λ_ => ?_⟩;by_cases e:k<c
 ·exact h.sk e
 ·have hle:=h.le
  obtain rfl:k=c:=by omega
  exact h.ns hT Um hc hz
theorem EL.swap {T B:List (List Rat)} {W:Nat} {n k c i:Nat} {m:List (List Rat)} {r t:List Rat} (h:EL T B n W m k c) (hi:m[i]? = some r) (hk:m[k]? = some t) (hki:k<=i):EL T B n W ((m.set i t).set k r) k c:=by
 have w9:=(zS hi).1;have ox:=(zS hk).1;have ff : ∀ (q:Nat) (x:List Rat),((m.set i t).set k r)[q]? = some x->(q=k/\x=r)\/(q≠k/\q=i/\x=t)\/(q≠k/\q≠i/\m[q]? = some x):=λ q x hx=>by
  rw[List.getElem?_set,List.getElem?_set,List.length_set]at hx;by_cases e1:k=q
  ·rw[if_pos e1,if_pos (by omega)]at hx
   exact Or.inl ⟨e1.symm,(Option.some.inj hx).symm⟩
  ·rw[if_neg e1]at hx
   by_cases e2:i=q
   ·rw[if_pos e2,if_pos (by omega)]at hx
    exact Or.inr (Or.inl ⟨Ne.symm e1,e2.symm,(Option.some.inj hx).symm⟩)
   ·rw[if_neg e2]at hx
    exact Or.inr (Or.inr ⟨Ne.symm e1,Ne.symm e2,hx⟩)
 have iv : ∀ x,x∈(m.set i t).set k r->x∈m:=λ x hx=>by
  obtain ⟨q,hq⟩:=List.getElem?_of_mem hx;rcases ff q x hq with ⟨_,rfl⟩|⟨_,_,rfl⟩|⟨_,_,h3⟩
  ·exact zM hi
  ·exact zM hk
  ·exact zM h3
 refine ⟨by rw[List.length_set,List.length_set];exact h.len,λ x hx=>h.wid x (iv x hx),λ v hv x hx=>h.kt v hv x (iv x hx),λ w hw=>h.kr w λ x hx => ?_,h.le,h.cn,?_,h.sk⟩
 ·obtain ⟨q,hq⟩:=List.getElem?_of_mem hx
  have ak:A0 r w=0:=hw r (zM (i:=k) (by rw[List.getElem?_set,if_pos rfl,if_pos (by rw[List.length_set];exact ox)]));by_cases e1:q=i
  ·subst e1
   cases hi.symm.trans hq;exact ak
  ·by_cases e2:q=k
   ·subst e2
    cases hk.symm.trans hq;exact hw t (zM (i:=i) (by rw[List.getElem?_set,if_neg (Ne.symm (Ne.symm e1)),List.getElem?_set,if_pos rfl,if_pos w9]))
   ·exact hw x (zM (i:=q) (by rw[List.getElem?_set,if_neg (Ne.symm e2),List.getElem?_set,if_neg (Ne.symm e1)];exact hq))
 intro e q x hx j hj;rcases ff q x hx with ⟨e1,rfl⟩|⟨_,e2,rfl⟩|⟨_,_,h3⟩
 ·rw[if_neg (by omega),h.z9 e i x hi j hj,if_neg (by omega)]
 ·rw[if_neg (by omega),h.z9 e k x hk j hj,if_neg (by omega)]
 ·exact h.z9 e q x h3 j hj
theorem EL.scale {T B:List (List Rat)} {W:Nat} {n k c:Nat} {m:List (List Rat)} {t:List Rat} (p:Rat) (h:EL T B n W m k c) (hk:m[k]? = some t) (hp:p≠0):EL T B n W (m.set k (t.map (· / p))) k c:=by
 refine ⟨by rw[List.length_set];exact h.len,?_,?_,λ w hw=>h.kr w λ x hx => ?_,h.le,h.cn,?_,h.sk⟩
 ·intro x hx
  rcases TF hx with rfl|⟨j,_,hj⟩
  ·rw[List.length_map];exact h.wid t (zM hk)
  ·exact h.wid x (zM hj)
 ·intro v hv x hx
  rcases TF hx with rfl|⟨j,_,hj⟩
  ·rw[kF,h.kt v hv t (zM hk),Rat.div_def,Rat.zero_mul]
  ·exact h.kt v hv x (zM hj)
 ·obtain ⟨q,hq⟩:=List.getElem?_of_mem hx
  have ox:=(zS hk).1;by_cases e:q=k
  ·subst e
   cases hk.symm.trans hq;have h1:=hw (t.map (· / p)) (zM (i:=q) (by rw[List.getElem?_set,if_pos rfl,if_pos ox]));rw[kF]at h1;have h2:A0 t w=A0 t w/p*p:=by rw[Rat.div_def,Rat.mul_assoc,Rat.inv_mul_cancel _ hp,Rat.mul_one]
   rw[h2,h1,Rat.zero_mul]
  ·exact hw x (zM (i:=q) (by rw[List.getElem?_set,if_neg (Ne.symm e)];exact hq))
 ·intro e q x hx j hj
  rw[List.getElem?_set]at hx;by_cases e1:k=q
  ·rw[if_pos e1]at hx
   split at hx
   ·obtain rfl:=Option.some.inj hx
    rw[tZ,h.z9 e k t hk j hj,if_neg (by omega),if_neg (by omega),Rat.div_def,Rat.zero_mul]
   ·cases hx
  ·rw[if_neg e1]at hx
   exact h.z9 e q x hx j hj
structure N0 (T B:List (List Rat)) (n W K:Nat) (k c:Nat) (t:List Rat) (m:List (List Rat)) (i:Nat):Prop where
 red:EL T B n W m k c
 ht:m[k]? = some t
 one:t.getD c 0=1
 dn : ∀ (q:Nat) (r:List Rat),q<i->q≠k->m[q]? = some r->r.getD c 0=0
 lo : ∀ (q:Nat) (r:List Rat),q<i->m[q]? = some r->Bs (4*K+1) r
 hi : ∀ (q:Nat) (r:List Rat),i<=q->q≠k->m[q]? = some r->Bs K r
 bt:Bs (2*K) t
theorem N0.start {T B:List (List Rat)} {W:Nat} {n K k c:Nat} {m:List (List Rat)} {t:List Rat} (h:EL T B n W m k c) (hk:m[k]? = some t) (hp:t.getD c 0≠0) (hM : ∀ (q:Nat) (r:List Rat),m[q]? = some r->Bs K r):N0 T B n W K k c (t.map (· / t.getD c 0)) (m.set k (t.map (· / t.getD c 0))) 0:=by
 have ox:=(zS hk).1;have pc:=hM k t hk;refine ⟨h.scale _ hk hp,by rw[List.getElem?_set,if_pos rfl,if_pos ox],by rw[tZ,Rat.div_def,Rat.mul_inv_cancel _ hp],λ q r h1=>absurd h1 (by omega),λ q r h1=>absurd h1 (by omega),λ q r _ h2 hq => ?_,λ y hy => ?_⟩
 ·rw[List.getElem?_set,if_neg (Ne.symm h2)]at hq
  exact hM q r hq
 ·obtain ⟨z,hz,rfl⟩:=List.mem_map.1 hy
  exact ((pc z hz).uy (Bs.getD pc c)).le (by omega)
theorem N0.same {T B:List (List Rat)} {W:Nat} {n K k c i:Nat} {m:List (List Rat)} {t:List Rat} (h:N0 T B n W K k c t m i) (hz:i≠k -> ∀ r,m[i]? = some r->r.getD c 0=0):N0 T B n W K k c t m (i+1):=by
 refine ⟨h.red,h.ht,h.one,λ q r h1 h2 hq => ?_,λ q r h1 hq => ?_,λ q r h1=>h.hi q r (by omega),h.bt⟩
 ·by_cases e:q=i
  ·subst e;exact hz h2 r hq
  ·exact h.dn q r (by omega) h2 hq
 ·by_cases e:q=i
  ·by_cases e2:q=k
   ·subst e2
    cases h.ht.symm.trans hq;exact λ y hy=>(h.bt y hy).le (by omega)
   ·exact λ y hy=>(h.hi q r (by omega) e2 hq y hy).le (by omega)
  ·exact h.lo q r (by omega) hq
theorem N0.step {T B:List (List Rat)} {W:Nat} {n K k c i:Nat} {m:List (List Rat)} {t r:List Rat} (h:N0 T B n W K k c t m i) (hi:m[i]? = some r) (nn:i≠k):N0 T B n W K k c t (m.set i (kb (r.getD c 0) r t)) (i+1):=by
 have w9:=(zS hi).1;have ax:=h.red.wid r (zM hi);have bm:=h.red.wid t (zM h.ht);have Hk:r.length=t.length:=by omega
 have ff : ∀ (q:Nat) (x:List Rat),(m.set i (kb (r.getD c 0) r t))[q]? = some x->(q=i/\x=kb (r.getD c 0) r t)\/(q≠i/\m[q]? = some x):=λ q x hx=>by
  rw[List.getElem?_set]at hx;by_cases e:i=q
  ·rw[if_pos e,if_pos (by omega)]at hx
   exact Or.inl ⟨e.symm,(Option.some.inj hx).symm⟩
  ·rw[if_neg e]at hx
   exact Or.inr ⟨Ne.symm e,hx⟩
 refine ⟨⟨by rw[List.length_set];exact h.red.len,?_,?_,λ w hw=>h.red.kr w λ x hx => ?_,h.red.le,h.red.cn,?_,h.red.sk⟩,by rw[List.getElem?_set,if_neg nn];exact h.ht,h.one,?_,?_,?_,h.bt⟩
 ·intro x hx
  obtain ⟨q,hq⟩:=List.getElem?_of_mem hx;rcases ff q x hq with ⟨_,rfl⟩|⟨_,h2⟩
  ·rw[jS Hk];exact ax
  ·exact h.red.wid x (zM h2)
 ·intro v hv x hx
  obtain ⟨q,hq⟩:=List.getElem?_of_mem hx;rcases ff q x hq with ⟨_,rfl⟩|⟨_,h2⟩
  ·rw[jR _ _ _ _ Hk,h.red.kt v hv r (zM hi),h.red.kt v hv t (zM h.ht)]
   grind
  ·exact h.red.kt v hv x (zM h2)
 ·obtain ⟨q,hq⟩:=List.getElem?_of_mem hx
  have xx:A0 t w=0:=hw t (zM (i:=k) (by rw[List.getElem?_set,if_neg nn];exact h.ht));by_cases e:q=i
  ·subst e
   cases hi.symm.trans hq;have h1:=hw _ (zM (i:=q) (by rw[List.getElem?_set,if_pos rfl,if_pos w9]));rw[jR _ _ _ _ Hk,xx]at h1;grind
  ·exact hw x (zM (i:=q) (by rw[List.getElem?_set,if_neg (Ne.symm e)];exact hq))
 ·intro e q x hx j hj
  rcases ff q x hx with ⟨e1,rfl⟩|⟨_,h2⟩
  ·rw[sY Hk,h.red.z9 e i r hi j hj,h.red.z9 e k t h.ht j hj,e1,if_neg (show ¬ k=j by omega)]
   grind
  ·exact h.red.z9 e q x h2 j hj
 ·intro q x h1 h2 hx
  rcases ff q x hx with ⟨e1,rfl⟩|⟨e1,h3⟩
  ·rw[sY Hk,h.one];grind
  ·exact h.dn q x (by omega) h2 h3
 ·intro q x h1 hx
  rcases ff q x hx with ⟨e1,rfl⟩|⟨e1,h3⟩
  ·intro y hy
   obtain ⟨a,ha,b,pz,rfl⟩:=sZ hy;have Fq:=h.hi i r (Nat.le_refl _) nn hi;exact ((Fq a ha).mr ((Bs.getD Fq c).mul (h.bt b pz))).le (by omega)
  ·exact h.lo q x (by omega) h3
 ·intro q x h1 h2 hx
  rcases ff q x hx with ⟨e1,rfl⟩|⟨e1,h3⟩
  ·omega
  ·exact h.hi q x (by omega) h2 h3
theorem N0.fin {T B:List (List Rat)} {W:Nat} {n K k c:Nat} {m:List (List Rat)} {t:List Rat} (h:N0 T B n W K k c t m n) (hc:c<n):EL T B n W m (k+1) (c+1) /\ ∀ (q:Nat) (r:List Rat),m[q]? = some r->Bs (4*K+1) r:=by
 have l9 : ∀ (q:Nat) (r:List Rat),m[q]? = some r->q<n:=λ q r hq=>by
  have:=(zS hq).1
  rw[h.red.len]at this;exact this
 refine ⟨⟨h.red.len,h.red.wid,h.red.kt,h.red.kr,Nat.succ_le_succ h.red.le,hc,λ e q r hq j hj => ?_,λ Ave=>h.red.sk (by omega)⟩,λ q r hq=>h.lo q r (l9 q r hq) hq⟩;have e2:k=c:=by omega
 by_cases e3:j=c
 ·by_cases e4:q=k
  ·subst e4
   cases h.ht.symm.trans hq;rw[e3,h.one,if_pos e2]
  ·rw[e3,h.dn q r (l9 q r hq) e4 hq,if_neg (by omega)]
 ·exact h.red.z9 e2 q r hq j (by omega)
theorem EL.row {T B:List (List Rat)} {n W i:Nat} {m:List (List Rat)} {r:List Rat} (h:EL T B n W m n n) (hi:m[i]? = some r):r.take n=E5 n i:=by
 have ax:=h.wid r (zM hi);refine List.ext_getElem? λ j => ?_
 by_cases hj:j<n
 ·obtain ⟨y,hy⟩ : ∃ y,r[j]? = some y:=⟨_,zE (by omega)⟩
  have h3:=h.z9 rfl i r hi j hj;rw[List.getD_eq_getElem?_getD,hy]at h3;rw[List.getElem?_take,if_pos hj,hy,E5,List.getElem?_map,List.getElem?_range hj];show some y=some _;rw[show y=(if i=j then 1 else 0:Rat) from h3];show some (if i=j then (1:Rat) else 0)=some (if (j:Int)=(i:Int) then (1:Rat) else 0);by_cases h5:i=j
  ·rw[if_pos h5,if_pos (by omega)]
  ·rw[if_neg h5,if_neg (by omega)]
 ·rw[List.getElem?_eq_none (by rw[List.length_take];omega),List.getElem?_eq_none (by rw[iC];omega)]
theorem EL.sol {T:List (List Rat)} {b:List Rat} {n:Nat} {m:List (List Rat)} (h:EL T (b.map λ x=>[x]) n 1 m n n) (hT:Sq n T) (hb:b.length=n) : ∀ (i:Nat) (t:List Rat) (s:Rat),T[i]? = some t->b[i]? = some s->A0 t (m.map λ r=>r.getD n 0)=s:=by
 intro i t s ht hs;have ql:(m.map λ r=>r.getD n 0).length=n:=by rw[List.length_map];exact h.len
 have hK:EV m ((m.map λ r=>r.getD n 0)++[-1]):=by
  intro r hr;obtain ⟨j,hj⟩:=List.getElem?_of_mem hr;have cp:=(zS hj).1;rw[h.len]at cp;have ax:=h.wid r hr;rw[<-List.take_append_drop n r,O3 _ _ _ _ (by rw[List.length_take,ql];omega),h.row hj,dU ql cp];have e1:(m.map λ r=>r.getD n 0).getD j 0=r.getD n 0:=by
   rw[List.getD_eq_getElem?_getD,List.getElem?_map,hj];rfl
  have e2:r.drop n=[r.getD n 0]:=by
   rw[List.drop_eq_getElem_cons (by omega),List.drop_of_length_le (by omega),List.getD_eq_getElem?_getD,zE (by omega)];rfl
  rw[e1,e2];simp only[A0];grind
 have h1:=h.kr _ hK (t++[s]) (zM (i:=i) (by
  rw[CO,List.getElem?_zipWith,ht,List.getElem?_map,hs];rfl))
 rw[O3 _ _ _ _ (by rw[hT.at ht,ql])]at h1;simp only[A0]at h1;grind
theorem EL.nsT {T B:List (List Rat)} {n W:Nat} {m:List (List Rat)} (h:EL T B n W m n n) (hT:Sq n T):NS n T:=by
 intro X hX hk j;have hK:EV (CO T B) (X++List.replicate W 0):=by
  intro r hr;obtain ⟨i,hi⟩:=List.getElem?_of_mem hr;rw[CO,List.getElem?_zipWith]at hi;cases ht:T[i]? with
  | none=>rw[ht]at hi;cases hi
  | some t =>
   cases hb:B[i]? with
   | none=>rw[ht,hb]at hi;cases hi
   | some b =>
    rw[ht,hb]at hi;obtain rfl:=Option.some.inj hi;rw[O3 _ _ _ _ (by rw[hT.at ht,hX]),VE,Rat.add_zero];exact hk t (zM ht)
 have hm:=h.kt _ hK;by_cases hj:j<n
 ·obtain ⟨r,hr⟩ : ∃ r,m[j]? = some r:=⟨_,zE (by rw[h.len];exact hj)⟩
  have h1:=hm r (zM hr);have ax:=h.wid r (zM hr);rw[<-List.take_append_drop n r,O3 _ _ _ _ (by rw[List.length_take,hX];omega),VE,h.row hr,dU hX hj,Rat.add_zero]at h1;exact h1
 ·rw[List.getD_eq_getElem?_getD,List.getElem?_eq_none (by omega)];rfl
end Go.c9
namespace Go.c9
open F
attribute [local irreducible] AA AF AP AD CI AY AW A6 A5 B2 AM BQ B8 C8 BM A1 BR B9 AB A7 AJ pw BO BH CH CK CS CP CD BT CJ
variable {L:Lib}
set_option maxHeartbeats 16000000
theorem Ahj (N:o8 L) (m:Nat) (hm:m<=65536):TS L 206 [.int .i64 (m:Int)] 3 ((List.replicate m (0:Rat)).map eQ):=by
 have hO:=HS N.toa6 0 (by omega);refine TS.x N.SN rfl rfl ?_;(repeat' (apply AE<;>conv=>whnf))
 refine EJ (enc:=eO) none m rfl rfl (by omega) ?_;(conv=>whnf)
 skip
 refine BP (λ i=>m-i) (λ(i:Nat)=>i<=m) (λ i=>[(8,.int .i64 i)]) (λ i=>[(6,6,.rw 3 ((ED (List.replicate i 0) m).map eO))]) [] [] 0 (by first|exact (by (conv=>whnf);exact ⟨rfl,rfl,rfl⟩)|(rw[<-OG];exact (by (conv=>whnf);exact ⟨rfl,rfl,rfl⟩))) (by omega) ?_;intro i p1 ih;by_cases hi:i<m
 ·have hl:=J9 (l:=List.replicate i (0:Rat)) (m:=m) (by simp;omega)
  have hs:=OH (l:=List.replicate i (0:Rat)) (m:=m) (x:=0) (by simp;omega);rw[List.length_replicate]at hs;(repeat' ((first|(apply AG<;>intro hc<;>try (exfalso;omega))|(apply AZ;omega)|apply AE|refine AC (hO) ?_)<;>conv=>whnf))
  refine FF (enc:=eO) (some 0) rfl (λ e=>by cases e<;>rfl) (by omega) ?_;(conv=>whnf)
  (repeat' ((first|(apply AU;omega)|fail)<;>conv=>whnf))
  rw[hs];rw[show List.replicate i (0:Rat)++[0]=List.replicate (i+1) 0 by rw[List.replicate_succ']];exact BG [] (ih (i+1) (by omega) (by omega))
 obtain rfl:i=m:=by omega
 clear ih;rw[OE (by simp)];(repeat' ((first|(apply AG<;>intro hc<;>try (exfalso;omega))|apply AE)<;>conv=>whnf))
 exact ⟨rfl,rfl,by simp,rfl,HO _⟩
theorem lJ (N:o8 L) (q:Bool) (l:List Rat) (i:Int) (k:Nat) (h0:0<=i) (hl:Bs k l) (hk:k<2199023255552) (hn:l.length<=1000000):Ev L 205 [.sl q (l.map eQ),.int .i64 i] (.agg (eQ (l.getD i.toNat 0))):=by
 have hO:=HS N.toa6 0 (by omega);refine Ev.x N.SL rfl rfl ?_;by_cases hi:i<l.length
 ·obtain ⟨x,hx⟩ : ∃ x,l[i.toNat]? = some x:=⟨_,zE (by omega)⟩
  have hT:=eE N.toa6 (hl.at hx) hk;rw[lU hx];(repeat' ((first|(apply AG<;>intro hc<;>try (exfalso;omega))|apply AR|(refine BA (by assumption) ?_ rfl ?_;omega)|apply AE|refine AC (hT) ?_)<;>conv=>whnf))
  exact AX rfl (DI _)
 ·rw[AhD (l:=l) (by omega)]
  (repeat' ((first|(apply AG<;>intro hc<;>try (exfalso;omega))|apply AR|apply AE|refine AC (hO) ?_)<;>conv=>whnf))
  exact AX rfl (DI _)
theorem wH (N:o8 L) (q:Bool) (l:List Rat) (k:Nat) (ht:TP l=l) (hl:Bs k l) (hk:k<2199023255552) (hn:l.length<=1000000):Ev L 204 [.sl q (l.map eQ)] (.int .i64 ((l.length-1:Nat):Int)):=by
 refine Ev.x N.SM rfl rfl ?_;(repeat' ((first|(apply B7;omega)|apply AR|apply AE)<;>conv=>whnf))
 refine GH ?_;by_cases h2:l.length<=1
 ·(repeat' ((first|(apply AG<;>intro hc<;>try (exfalso;omega))|apply AE)<;>conv=>whnf))
  exact C2 (by omega)
 ·obtain ⟨x,hx⟩ : ∃ x,l[l.length-1]? = some x:=⟨_,zE (by omega)⟩
  have fb:l[((l.length:Int)-1).toNat]? = some x:=by rw[show ((l.length:Int)-1).toNat=l.length-1 by omega];exact hx
  have Jn:=Alc ht (by omega);rw[lU hx]at Jn;have hS:=WP N.toa6 (hl.at hx) hk;have hs:=TK (x:=x);generalize q6 x.num=s at *;have dp:s≠0:=λ h=>Jn (hs.1 h)
  (repeat' ((first|(apply AG<;>intro hc<;>try (exfalso;omega))|(refine BA (by assumption) ?_ rfl ?_;omega)|apply AE|refine AC (hS) ?_)<;>conv=>whnf))
  exact C2 (by omega)
theorem Ahg (N:o8 L) (q1 q2:Bool) (B A:List Rat) (k:Nat) (hB:Bs k B) (hA:Bs k A) (hk:k<2199023255552) (lB:B.length<=49) (lA:A.length<=49) (h0:A[0]? = some 1):Ev L 201 [.agg [.sl q1 (B.map eQ),.sl q2 (A.map eQ)]] (.bool true):=by
 have c1:=ZX B B.length;have c2:=ZX A A.length;have sj:=vV N q1 B k hB hk (by omega);have sn:=vV N q2 A k hA hk (by omega);have hO:=HS N.toa6 1 (by omega);have hC:=vH N (Bt.one 1) (Bt.one 1) (by omega) (by omega);rw[oP.2 rfl]at hC;have hAl:0<A.length:=(zS h0).1;have yf:A[(0:Int).toNat]? = some 1:=h0;generalize H7 B B.length=d1 at *;generalize H7 A A.length=d2 at *;refine Ev.x N.SE rfl rfl ?_;(repeat' ((first|(apply AG<;>intro hc<;>try (exfalso;omega))|apply AR|(refine BA (by assumption) ?_ rfl ?_;omega)|apply AE|refine AC (sj) ?_|refine AC (sn) ?_|refine AC (hO) ?_|refine AC (hC) ?_)<;>conv=>whnf))
 exact IJ rfl
theorem Aet (B A:List Rat) (m:Nat):(FJ B A (m+1)).a.take 1=[(List.range (m+1)).map λ k => -(A.getD (k+1) 0)]:=by
 simp [FJ,List.range_succ_eq_map]
theorem Aeu {B A:List Rat} {n i:Nat} (h1:1<=i) (hi:i<n):(FJ B A n).a[i]? = some (E5 n ((i-1:Nat):Int)):=by
 simp only[FJ,List.getElem?_map,List.getElem?_range hi,Option.map_some];rw[if_neg (by omega)]
theorem tK {B A:List Rat} {n i:Nat} (hi:i<n):(FJ B A n).c[i]? = some (B.getD (i+1) 0-B.getD 0 0*A.getD (i+1) 0):=by
 simp only[FJ,List.getElem?_map,List.getElem?_range hi,Option.map_some]
theorem Aew (B A:List Rat) (m:Nat):(FJ B A (m+1)).c.take 1=[B.getD 1 0-B.getD 0 0*A.getD 1 0]:=by
 rw[List.take_add_one,tK (by omega)];rfl
theorem Aev (B A:List Rat) (n:Nat):(FJ B A n).a.length=n:=by simp [FJ]
theorem Aex (B A:List Rat) (n:Nat):(FJ B A n).c.length=n:=by simp [FJ]
theorem JZ {α:Type} {l:List α} {i:Nat} {x:α} (h:l[i]? = some x):l.take (i+1)=l.take i++[x]:=by
 rw[List.take_add_one,h];rfl
theorem Ad5 (S:CU) (e:Int):A3 (.j5 [.agg (eS S),.int .i64 e]):=by
 have:=ZU S
 simp only[A3,CG,true_and,and_true]at this ⊢;exact this
theorem Agd (N:o8 L) (w1 w2:Bool) (B A:List Rat) (n k:Nat) (hB:TP B=B) (hA:TP A=A) (bB:Bs k B) (bA:Bs k A) (lB:B.length<=17) (lA:A.length<=17) (h0:A[0]? = some 1) (hn:max (B.length-1) (A.length-1)=n) (hk:k<=1000000) :
  Ev L 207 [.agg [.sl w1 (B.map eQ),.sl w2 (A.map eQ)]] (.j5 [.agg (eS (FJ B A n)),.int .i64 0]):=by
 have hV:=Ahg N w1 w2 B A k bB bA (by omega) (by omega) (by omega) h0;have sj:=wH N w1 B k hB bB (by omega) (by omega);have sn:=wH N w2 A k hA bA (by omega) (by omega);have hO:=HS N.toa6 1 (by omega);have xh:=lJ N w1 B 0 k (by omega) bB (by omega) (by omega);rw[show B.getD (0:Int).toNat 0=B.getD 0 0 from rfl]at xh;have hZ:=Ahj N n (by omega);have Uc:Bt k (B.getD 0 0):=aH bB 0;have Dy : ∀ i:Nat,Ev L 205 [.sl w1 (B.map eQ),.int .i64 ((i:Int)+1)] (.agg (eQ (B.getD (i+1) 0)))/\Ev L 205 [.sl w2 (A.map eQ),.int .i64 ((i:Int)+1)] (.agg (eQ (A.getD (i+1) 0))) /\
   Ev L 99 [.agg (eQ (B.getD 0 0)),.agg (eQ (A.getD (i+1) 0))] (.agg (eQ (B.getD 0 0*A.getD (i+1) 0)))/\Ev L 150 [.agg (eQ (B.getD (i+1) 0)),.agg (eQ (B.getD 0 0*A.getD (i+1) 0))] (.agg (eQ (B.getD (i+1) 0-B.getD 0 0*A.getD (i+1) 0))) /\
   Ev L 199 [.agg (eQ (A.getD (i+1) 0))] (.agg (eQ (-(A.getD (i+1) 0)))):=λ i=>by
  have e1:=lJ N w1 B ((i:Int)+1) k (by omega) bB (by omega) (by omega);have e2:=lJ N w2 A ((i:Int)+1) k (by omega) bA (by omega) (by omega);rw[show ((i:Int)+1).toNat=i+1 by omega]at e1 e2;exact ⟨e1,e2,GD N.toa6 Uc (aH bA _) (by omega) (by omega),eB N.toy8 (aH bB _) (Uc.mul (aH bA _)) (by omega) (by omega),vS N (aH bA _) (by omega)⟩
 have hd:(FJ B A n).d=B.getD 0 0:=rfl;have ag:=Aev B A n;have n7:=Aex B A n;have qg:eS (FJ B A n)=[.sl false ((FJ B A n).a.map λ r=>[AV.sl false (r.map eQ)]),.sl false ((E5 n 0).map eQ),.sl false ((FJ B A n).c.map eQ)]++eQ (B.getD 0 0):=rfl;have aj:=Ad5 (FJ B A n) 0;rw[qg]at aj ⊢;have Vd : ∀ i,1<=i->i<n->(FJ B A n).a[i]? = some (E5 n ((i-1:Nat):Int)):=λ i h1 h2=>Aeu h1 h2
 have Fs : ∀ i,i<n->(FJ B A n).c[i]? = some (B.getD (i+1) 0-B.getD 0 0*A.getD (i+1) 0):=λ i h=>tK h
 have Ir:0<n->(FJ B A n).a.take 1=[(List.range n).map λ k => -(A.getD (k+1) 0)]:=λ h=>by
  obtain ⟨m,rfl⟩ : ∃ m,n=m+1:=⟨n-1,by omega⟩;exact Aet B A m
 have Ak:0<n->(FJ B A n).c.take 1=[B.getD (0+1) 0-B.getD 0 0*A.getD (0+1) 0]:=λ h=>by
  obtain ⟨m,rfl⟩ : ∃ m,n=m+1:=⟨n-1,by omega⟩;exact Aew B A m
 have s9 : ∀ j,j<n->((List.range n).map λ k => -(A.getD (k+1) 0))[j]? = some (-(A.getD (j+1) 0)):=λ j h=>by
  rw[List.getElem?_map,List.getElem?_range h];rfl
 have Hc:((List.range n).map λ k => -(A.getD (k+1) 0)).length=n:=by simp
 have je : ∀ j,(E5 n j).length=n:=λ j=>iC n j
 generalize (FJ B A n).a=a at *;generalize (FJ B A n).c=c at *;generalize (List.range n).map (λ k => -(A.getD (k+1) 0))=r0 at *;generalize B.getD 0 0=b0 at *;rcases Nat.lt_or_ge (B.length-1) (A.length-1) with l9|kg
 ·rw[show A.length-1=n by omega]at sn l9
  refine Ev.x N.K8 rfl rfl ?_;(repeat' ((first|(apply AG<;>intro hc<;>try (exfalso;omega))|apply AE|refine AC (hV) ?_|refine AC (sj) ?_|refine AC (sn) ?_|refine AC (xh) ?_)<;>conv=>whnf))
  refine SV (enc:=eQ) n hZ (by simp) ?_;(conv=>whnf)
  by_cases ue:n=0
  ·skip
   exact absurd l9 (by omega)
  ·(repeat' ((first|(apply AG<;>intro hc<;>try (exfalso;omega))|(apply AZ;omega)|refine AC (hO) ?_)<;>conv=>whnf))
   refine V9 (enc:=eQ) 0 1 rfl rfl (λ_=>rfl) (by simp;omega) ?_;(conv=>whnf)
   rw[show (List.replicate n (0:Rat)).set 0 1=E5 n 0 from iD n 0];skip
   refine GH ?_;(repeat' ((first|(apply AG<;>intro hc<;>try (exfalso;omega))|apply AE)<;>conv=>whnf))
   refine SV (enc:=eQ) n hZ (by simp) ?_;(conv=>whnf)
   (repeat' ((first|(apply AG<;>intro hc<;>try (exfalso;omega))|fail)<;>conv=>whnf))
   refine BP (λ j=>n-j) (λ(j:Nat)=>j<=n) (λ j=>[(50,.int .i64 j)]) (λ j=>[(41,41,.rw 3 ((cz r0 n j).map eQ))]) [] [] 0 (by first|exact (by (conv=>whnf);exact ⟨rfl,rfl,rfl⟩)|(rw[tR];exact (by (conv=>whnf);exact ⟨rfl,rfl,rfl⟩))) (by omega) ?_;intro j p1 ih;have vf:=tP (row:=r0) p1;by_cases hj:j<n
   ·have k6:=tQ (s9 j hj) hj
    obtain ⟨f1,f2,f3,f4,f5⟩:=Dy j;(repeat' ((first|(apply AG<;>intro hc<;>try (exfalso;omega))|(apply AZ;omega)|(apply AU;omega)|apply AE|refine AC (f2) ?_|refine AC (f5) ?_)<;>conv=>whnf))
    refine FF (enc:=eQ) (-(A.getD (j+1) 0)) rfl (λ_=>rfl) (by omega) ?_;(conv=>whnf)
    (repeat' ((first|(apply AU;omega)|fail)<;>conv=>whnf))
    rw[k6];exact BG [] (ih (j+1) (by omega) (by omega))
   obtain rfl:j=n:=by omega
   clear ih;rw[tO Hc];obtain ⟨f1,f2,f3,f4,f5⟩:=Dy 0;(repeat' ((first|(apply AG<;>intro hc<;>try (exfalso;omega))|apply AE)<;>conv=>whnf))
   refine AZ ⟨by rw[List.length_map];omega,by omega⟩ ?_;(conv=>whnf)
   (repeat' ((first|(apply AU;omega)|apply DW|refine AC (xh) ?_|refine AC (f1) ?_|refine AC (f2) ?_|refine AC (f3) ?_|refine AC (f4) ?_)<;>conv=>whnf))
   refine ZD (enc:=eQ) (B.getD (0+1) 0-b0*A.getD (0+1) 0) rfl rfl (by omega) ?_;(conv=>whnf)
   (repeat' ((first|(apply AU;omega)|fail)<;>conv=>whnf))
   refine BP (λ i=>j-i) (λ(i:Nat)=>1<=i/\i<=j) (λ i=>[(37,.int .i64 i)]) (λ i=>[(5,5,.bx ([.row 67 0 1 0 i,.row 28 0 3 0 j,.row 88 0 3 0 i]++eQ b0)),(67,67,.mx (BK 3 eQ (a.take i))),(88,88,.rw 3 ((c.take i).map eQ))]) [] [] 1 (by first|exact (by (conv=>whnf);exact ⟨rfl,rfl,rfl⟩)|(rw[Ir (by omega),Ak (by omega)];exact (by (conv=>whnf);exact ⟨rfl,rfl,rfl⟩))) (by omega) ?_;intro i ⟨g1,g2⟩ ih;have Cc:(a.take i).length=i:=by rw[List.length_take];omega
   have Cg:(c.take i).length=i:=by rw[List.length_take];omega
   by_cases hi:i<j
   ·obtain ⟨f1,f2,f3,f4,f5⟩:=Dy i
    have Nv:=JZ (Vd i g1 hi);have Nw:=JZ (Fs i hi);have Cd:(a.take (i+1)).length=i+1:=by rw[List.length_take];omega
    have Ch:(c.take (i+1)).length=i+1:=by rw[List.length_take];omega
    have Oi:=je ((i-1:Nat):Int);(repeat' ((first|(apply AG<;>intro hc<;>try (exfalso;omega))|apply AE)<;>conv=>whnf))
    refine SV (enc:=eQ) j hZ (by simp) ?_;(conv=>whnf)
    (repeat' ((first|(apply AG<;>intro hc<;>try (exfalso;omega))|(apply AZ;omega)|(apply B7;omega)|refine AC (hO) ?_)<;>conv=>whnf))
    refine V9 (enc:=eQ) (i-1) 1 (by omega) rfl (λ_=>rfl) (by simp;omega) ?_;(conv=>whnf)
    rw[iD];skip
    refine AZ (by rw[List.length_map];omega) ?_;refine XR (r:=E5 j ((i-1:Nat):Int)) (en:=eQ) Cc.symm (by omega) (by omega) ?_;rw[<-Nv,Cd];(conv=>whnf)
    (repeat' ((first|(apply AU;omega)|apply DW|refine AC (xh) ?_|refine AC (f1) ?_|refine AC (f2) ?_|refine AC (f3) ?_|refine AC (f4) ?_)<;>conv=>whnf))
    refine EO (enc:=eQ) (B.getD (i+1) 0-b0*A.getD (i+1) 0) rfl Cg.symm rfl (by omega) (by omega) ?_;rw[<-Nw,Ch];(conv=>whnf)
    (repeat' ((first|(apply AU;omega)|fail)<;>conv=>whnf))
    exact BG [(67,1000067),(88,1000088)] (ih (i+1) (by omega) (by omega))
   obtain rfl:i=j:=by omega
   clear ih;rw[List.take_of_length_le (Nat.le_of_eq ag),List.take_of_length_le (Nat.le_of_eq n7)]at *;(repeat' ((first|(apply AG<;>intro hc<;>try (exfalso;omega))|apply AE)<;>conv=>whnf))
   refine J4 (λ_=>rfl) rfl ag.symm ?_;(conv=>whnf)
   refine C9 (enc:=eQ) (λ_=>rfl) rfl (je 0).symm ?_;(conv=>whnf)
   refine C9 (enc:=eQ) (λ_=>rfl) rfl n7.symm ?_;(conv=>whnf)
   exact AX rfl aj
 ·rw[show B.length-1=n by omega]at sj kg
  refine Ev.x N.K8 rfl rfl ?_;(repeat' ((first|(apply AG<;>intro hc<;>try (exfalso;omega))|apply AE|refine AC (hV) ?_|refine AC (sj) ?_|refine AC (sn) ?_|refine AC (xh) ?_)<;>conv=>whnf))
  refine SV (enc:=eQ) n hZ (by simp) ?_;(conv=>whnf)
  by_cases ue:n=0
  ·skip
   subst ue;(repeat' ((first|(apply AG<;>intro hc<;>try (exfalso;omega))|fail)<;>conv=>whnf))
   refine GH ?_;(repeat' ((first|(apply AG<;>intro hc<;>try (exfalso;omega))|(refine C9 (λ_=>rfl) rfl ?_ ?_;(first|rfl|simp))|apply AE)<;>conv=>whnf))
   rw[List.eq_nil_of_length_eq_zero ag,List.eq_nil_of_length_eq_zero n7]at *;exact AX rfl aj
  ·(repeat' ((first|(apply AG<;>intro hc<;>try (exfalso;omega))|(apply AZ;omega)|refine AC (hO) ?_)<;>conv=>whnf))
   refine V9 (enc:=eQ) 0 1 rfl rfl (λ_=>rfl) (by simp;omega) ?_;(conv=>whnf)
   rw[show (List.replicate n (0:Rat)).set 0 1=E5 n 0 from iD n 0];skip
   refine GH ?_;(repeat' ((first|(apply AG<;>intro hc<;>try (exfalso;omega))|apply AE)<;>conv=>whnf))
   refine SV (enc:=eQ) n hZ (by simp) ?_;(conv=>whnf)
   (repeat' ((first|(apply AG<;>intro hc<;>try (exfalso;omega))|fail)<;>conv=>whnf))
   refine BP (λ j=>n-j) (λ(j:Nat)=>j<=n) (λ j=>[(50,.int .i64 j)]) (λ j=>[(41,41,.rw 3 ((cz r0 n j).map eQ))]) [] [] 0 (by first|exact (by (conv=>whnf);exact ⟨rfl,rfl,rfl⟩)|(rw[tR];exact (by (conv=>whnf);exact ⟨rfl,rfl,rfl⟩))) (by omega) ?_;intro j p1 ih;have vf:=tP (row:=r0) p1;by_cases hj:j<n
   ·have k6:=tQ (s9 j hj) hj
    obtain ⟨f1,f2,f3,f4,f5⟩:=Dy j;(repeat' ((first|(apply AG<;>intro hc<;>try (exfalso;omega))|(apply AZ;omega)|(apply AU;omega)|apply AE|refine AC (f2) ?_|refine AC (f5) ?_)<;>conv=>whnf))
    refine FF (enc:=eQ) (-(A.getD (j+1) 0)) rfl (λ_=>rfl) (by omega) ?_;(conv=>whnf)
    (repeat' ((first|(apply AU;omega)|fail)<;>conv=>whnf))
    rw[k6];exact BG [] (ih (j+1) (by omega) (by omega))
   obtain rfl:j=n:=by omega
   clear ih;rw[tO Hc];obtain ⟨f1,f2,f3,f4,f5⟩:=Dy 0;(repeat' ((first|(apply AG<;>intro hc<;>try (exfalso;omega))|apply AE)<;>conv=>whnf))
   refine AZ ⟨by rw[List.length_map];omega,by omega⟩ ?_;(conv=>whnf)
   (repeat' ((first|(apply AU;omega)|apply DW|refine AC (xh) ?_|refine AC (f1) ?_|refine AC (f2) ?_|refine AC (f3) ?_|refine AC (f4) ?_)<;>conv=>whnf))
   refine ZD (enc:=eQ) (B.getD (0+1) 0-b0*A.getD (0+1) 0) rfl rfl (by omega) ?_;(conv=>whnf)
   (repeat' ((first|(apply AU;omega)|fail)<;>conv=>whnf))
   refine BP (λ i=>j-i) (λ(i:Nat)=>1<=i/\i<=j) (λ i=>[(37,.int .i64 i)]) (λ i=>[(5,5,.bx ([.row 67 0 1 0 i,.row 28 0 3 0 j,.row 88 0 3 0 i]++eQ b0)),(67,67,.mx (BK 3 eQ (a.take i))),(88,88,.rw 3 ((c.take i).map eQ))]) [] [] 1 (by first|exact (by (conv=>whnf);exact ⟨rfl,rfl,rfl⟩)|(rw[Ir (by omega),Ak (by omega)];exact (by (conv=>whnf);exact ⟨rfl,rfl,rfl⟩))) (by omega) ?_;intro i ⟨g1,g2⟩ ih;have Cc:(a.take i).length=i:=by rw[List.length_take];omega
   have Cg:(c.take i).length=i:=by rw[List.length_take];omega
   by_cases hi:i<j
   ·obtain ⟨f1,f2,f3,f4,f5⟩:=Dy i
    have Nv:=JZ (Vd i g1 hi);have Nw:=JZ (Fs i hi);have Cd:(a.take (i+1)).length=i+1:=by rw[List.length_take];omega
    have Ch:(c.take (i+1)).length=i+1:=by rw[List.length_take];omega
    have Oi:=je ((i-1:Nat):Int);(repeat' ((first|(apply AG<;>intro hc<;>try (exfalso;omega))|apply AE)<;>conv=>whnf))
    refine SV (enc:=eQ) j hZ (by simp) ?_;(conv=>whnf)
    (repeat' ((first|(apply AG<;>intro hc<;>try (exfalso;omega))|(apply AZ;omega)|(apply B7;omega)|refine AC (hO) ?_)<;>conv=>whnf))
    refine V9 (enc:=eQ) (i-1) 1 (by omega) rfl (λ_=>rfl) (by simp;omega) ?_;(conv=>whnf)
    rw[iD];skip
    refine AZ (by rw[List.length_map];omega) ?_;refine XR (r:=E5 j ((i-1:Nat):Int)) (en:=eQ) Cc.symm (by omega) (by omega) ?_;rw[<-Nv,Cd];(conv=>whnf)
    (repeat' ((first|(apply AU;omega)|apply DW|refine AC (xh) ?_|refine AC (f1) ?_|refine AC (f2) ?_|refine AC (f3) ?_|refine AC (f4) ?_)<;>conv=>whnf))
    refine EO (enc:=eQ) (B.getD (i+1) 0-b0*A.getD (i+1) 0) rfl Cg.symm rfl (by omega) (by omega) ?_;rw[<-Nw,Ch];(conv=>whnf)
    (repeat' ((first|(apply AU;omega)|fail)<;>conv=>whnf))
    exact BG [(67,1000067),(88,1000088)] (ih (i+1) (by omega) (by omega))
   obtain rfl:i=j:=by omega
   clear ih;rw[List.take_of_length_le (Nat.le_of_eq ag),List.take_of_length_le (Nat.le_of_eq n7)]at *;(repeat' ((first|(apply AG<;>intro hc<;>try (exfalso;omega))|apply AE)<;>conv=>whnf))
   refine J4 (λ_=>rfl) rfl ag.symm ?_;(conv=>whnf)
   refine C9 (enc:=eQ) (λ_=>rfl) rfl (je 0).symm ?_;(conv=>whnf)
   refine C9 (enc:=eQ) (λ_=>rfl) rfl n7.symm ?_;(conv=>whnf)
   exact AX rfl aj
theorem tE {a:List (List Rat)} {i j:Nat} {r:List Rat} {x:Rat} (hr:a[j]? = some r) (hx:r[i]? = some x):(DB a i)[j]? = some x:=by
 simp only[DB,List.getElem?_map,hr,Option.map_some,lU hx]
theorem iM {R:List (Option (Nat × List (List AV)))} {e:Nat} {r:Option (Nat × List (List AV))} {K:Option (Nat × List (List AV))->Prop} (h:R[e]? = some r) (hk:K r):BO R e K:=by
 unfold BO;exact ⟨r,h,hk⟩
def YZ (v:Int):Rat:=Rat.divInt (v%25-12) (1+v/25%8)
def F4 (l:List Int) (n:Nat):List Rat:=(List.range n).map λ i:Nat=>YZ (F8 (HM l (i:Int)) 2000)
theorem gA (l:List Int) (n:Nat):(F4 l n).length=n:=by simp [F4]
theorem Aj0 (l:List Int) (n:Nat):F4 l (n+1)=F4 l n++[YZ (F8 (HM l (n:Int)) 2000)]:=by simp [F4,List.range_succ]
theorem AjZ {v:Int} (h:0<=v):Bt 4 (YZ v):=by
 unfold YZ;obtain ⟨d,hd⟩:=Int.eq_ofNat_of_zero_le (show 0<=1+v/25%8 by omega);rw[hd,Rat.divInt_ofNat];refine Bt.mk ?_ ?_
 ·show _<=16;omega
 ·show _<=16;omega
theorem Rs (l:List Int) (n:Nat):Bs 4 (F4 l n):=by
 intro x hx;simp only[F4,List.mem_map]at hx;obtain ⟨i,_,rfl⟩:=hx;refine AjZ ?_;unfold F8;split<;>omega
def gJ (X:List Rat) (n j:Nat):List Rat:=(X.take (j*n+n)).drop (j*n)
def bH (X:List Rat) (n i:Nat):List (List Rat):=(List.range i).map (gJ X n)
def OT (l:List Int) (n:Nat):CU :=
 let X:=F4 l (n*n+2*n+1)
 ⟨bH X n n,(X.take (n*n+n)).drop (n*n),(X.take (n*n+2*n)).drop (n*n+n),X.getD (n*n+2*n) 0⟩
end Go.c9



namespace Go.c9
open F
attribute [local irreducible] AA AF AP AD CI AY AW A6 A5 B2 AM BQ B8 C8 BM A1 BR B9 AB A7 AJ pw BO BH CH CK CS CP CD BT CJ
variable {L:Lib}
set_option maxHeartbeats 8000000
theorem Akc {X:List Rat} {n j:Nat} (h:j*n+n<=X.length):(gJ X n j).length=n:=by
 simp only[gJ,List.length_drop,List.length_take];omega
theorem Ak3 (l:List Int) (n:Nat):(OT l n).Ok n 4:=by
 have hX:=gA l (n*n+2*n+1);have hb:=Rs l (n*n+2*n+1);have mem : ∀ (i j:Nat) (x:Rat),x∈((F4 l (n*n+2*n+1)).take j).drop i->Bt 4 x:=λ i j x hx=>hb x (List.mem_of_mem_take (List.mem_of_mem_drop hx))
 have hr : ∀ r∈bH (F4 l (n*n+2*n+1)) n n,∃ j,j<n/\r=gJ (F4 l (n*n+2*n+1)) n j:=λ r hr=>by
  simp only[bH,List.mem_map,List.mem_range]at hr;obtain ⟨j,h1,rfl⟩:=hr;exact ⟨j,h1,rfl⟩
 refine ⟨by simp [OT,bH],?_,?_,?_,?_,λ x hx=>mem _ _ x hx,λ x hx=>mem _ _ x hx,?_⟩
 ·intro r h
  obtain ⟨j,h1,rfl⟩:=hr r h;refine Akc ?_;have:=Nat.mul_le_mul_right n (show j+1<=n by omega)
  rw[Nat.succ_mul]at this;omega
 ·simp only[OT,List.length_drop,List.length_take];omega
 ·simp only[OT,List.length_drop,List.length_take];omega
 ·intro r h x hx
  obtain ⟨j,h1,rfl⟩:=hr r h;exact mem _ _ x hx
 ·show Bt 4 ((F4 l (n*n+2*n+1)).getD (n*n+2*n) 0)
  rw[List.getD_eq_getElem?_getD];cases e:(F4 l (n*n+2*n+1))[n*n+2*n]? with
  | none=>exact Bt.zero 4
  | some x=>exact hb.at e
end Go.c9



namespace Go.c9
open F
attribute [local irreducible] AA AF AP AD CI AY AW A6 A5 B2 AM BQ B8 C8 BM A1 BR B9 AB A7 AJ pw BO BH CH CK CS CP CD BT CJ
variable {L:Lib}
set_option maxHeartbeats 8000000
set_option maxRecDepth 8000
end Go.c9

namespace Go.c9
set_option maxHeartbeats 4000000
theorem nE (x:Rat):x.num<0↔x<0:=by rw[<-Int.not_le,Rat.num_nonneg,Rat.not_le]
theorem T3 (x:Rat):C3 x=if x<0 then -x else x:=by
 unfold C3;by_cases h:x<0
 ·rw[if_pos h,if_pos ((nE x).2 h)]
 ·rw[if_neg h,if_neg (λ e=>h ((nE x).1 e))]
theorem rR {a b c d:Rat} (h1:a<=b) (h2:c<=d):a+c<=b+d:=by grind
theorem ZN (x:Rat):0<=C3 x:=by
 rw[T3];split
 ·grind
 ·grind
theorem cT (x y:Rat):C3 (x*y)=C3 x*C3 y:=by
 have pp : ∀ a b:Rat,0<=a->0<=b->0<=a*b:=λ a b=>Rat.mul_nonneg
 rw[T3,T3,T3];by_cases hx:x<0
 ·by_cases hy:y<0
  ·have h:=pp (-x) (-y) (by grind) (by grind)
   rw[if_pos hx,if_pos hy,if_neg (by rw[Rat.not_lt];grind)];grind
  ·have h:=pp (-x) y (by grind) (by grind)
   rw[if_pos hx,if_neg hy];by_cases h0:x*y<0
   ·rw[if_pos h0];grind
   ·rw[if_neg h0];grind
 ·by_cases hy:y<0
  ·have h:=pp x (-y) (by grind) (by grind)
   rw[if_neg hx,if_pos hy];by_cases h0:x*y<0
   ·rw[if_pos h0];grind
   ·rw[if_neg h0];grind
  ·have h:=pp x y (by grind) (by grind)
   rw[if_neg hx,if_neg hy,if_neg (by grind)]
theorem rN (x y:Rat):C3 (x+y)<=C3 x+C3 y:=by
 rw[T3,T3,T3];split<;>split<;>split<;>grind
theorem rP {x:Rat} (h:0<=x):C3 x=x:=by
 rw[T3,if_neg (by grind)]
theorem iW:C3 0=0:=rP (by decide)
def BL:List Rat->Rat
 | []=>0
 | x::l=>C3 x+BL l
theorem Qr (x:Rat) : ∀ l,BL (l++[x])=BL l+C3 x
 | []=>by simp only[List.nil_append,BL];grind
 | y::l=>by
  simp only[List.cons_append,BL,Qr x l];grind
theorem gP : ∀ l,0<=BL l
 | []=>by simp [BL]
 | x::l=>by
  have h1:=ZN x;have h2:=gP l;simp only[BL];grind
theorem oR {c:Rat} (hc:0<=c) : ∀ l,BL (l.map (· * c))=BL l*c
 | []=>by simp only[List.map_nil,BL];grind
 | x::l=>by
  simp only[List.map_cons,BL,oR hc l,cT,rP hc];grind
def UC (m x:Rat):Rat:=if m<C3 x then C3 x else m
def WT (l:List Rat):Rat:=l.foldl UC 0
theorem AhL (m x:Rat):m<=UC m x/\C3 x<=UC m x:=by
 unfold UC;split<;>exact ⟨by grind,by grind⟩
theorem lS : ∀ (l:List Rat) (m:Rat),m<=l.foldl UC m /\ ∀ x∈l,C3 x<=l.foldl UC m
 | [],m=>⟨Rat.le_refl,λ x h=>by cases h⟩
 | y::l,m=>by
  obtain ⟨h1,h2⟩:=lS l (UC m y);obtain ⟨h3,h4⟩:=AhL m y;refine ⟨Rat.le_trans h3 h1,λ x hx => ?_⟩;rcases List.mem_cons.1 hx with rfl|hx
  ·exact Rat.le_trans h4 h1
  ·exact h2 x hx
theorem xJ {l:List Rat} {x:Rat} (h:x∈l):C3 x<=WT l:=(lS l 0).2 x h
theorem eK (l:List Rat):0<=WT l:=(lS l 0).1
theorem xK {l:List Rat} {c:Rat} (hc:0<=c) (h : ∀ x∈l,C3 x<=c):WT l<=c:=by
 have : ∀ (l:List Rat) (m:Rat),m<=c->(∀ x∈l,C3 x<=c)->l.foldl UC m<=c:=by
  intro l;induction l with
  | nil=>intro m hm _;exact hm
  | cons x l ih =>
   intro m hm h;refine ih _ ?_ λ y hy=>h y (List.mem_cons_of_mem _ hy)
   unfold UC;split
   ·exact h x List.mem_cons_self
   ·exact hm
 exact this l 0 hc h
theorem kL : ∀ (r v:List Rat) (g:Rat),0<=g->(∀ x∈v,C3 x<=g)->C3 (A0 r v)<=BL r*g
 | [],v,g,hg,_=>by
  have:A0 [] v=0:=by cases v<;>rfl
  rw[this,iW];simp only[BL];grind
 | x::r,[],g,hg,_=>by
  show C3 0<=_;rw[iW];exact Rat.mul_nonneg (gP _) hg
 | x::r,y::v,g,hg,h=>by
  have h1:=kL r v g hg λ z hz=>h z (List.mem_cons_of_mem _ hz)
  have h2:=h y List.mem_cons_self;have h3:C3 x*C3 y<=C3 x*g:=Rat.mul_le_mul_of_nonneg_left h2 (ZN x);have h4:=rN (x*y) (A0 r v);rw[cT]at h4;simp only[A0,BL];rw[Rat.add_mul];exact Rat.le_trans h4 (rR h3 h1)
theorem Ajq {a:List (List Rat)} {s:Rat} (hs:0<=s) (h : ∀ r∈a,BL r<=s) (v:List Rat):WT (D5 a v)<=s*WT v:=by
 refine xK (Rat.mul_nonneg hs (eK v)) λ x hx => ?_
 obtain ⟨r,hr,rfl⟩:=List.mem_map.1 hx;exact Rat.le_trans (kL r v _ (eK v) λ y hy=>xJ hy) (Rat.mul_le_mul_of_nonneg_right (h r hr) (eK v))
def DJ (a:List (List Rat)):Bool:=a.all λ r=>decide (BL r<=1/2)
def B6 (n:Nat) (a:List (List Rat)):Nat->List (List Rat)
 | 0=>a
 | k+1=>F2 (B6 n a k) (B6 n a k) n
theorem UW {n:Nat} {a:List (List Rat)} (h:Sq n a) : ∀ k,Sq n (B6 n a k)
 | 0=>h
 | k+1=>Sq.mul (UW h k).l _
def CX (c:Rat) (a:List (List Rat)):List (List Rat):=a.map λ r=>r.map (· * c)
theorem oS (c:Rat) (a:List (List Rat)):(CX c a).length=a.length:=by simp [CX]
theorem gQ {n:Nat} (c:Rat) {a:List (List Rat)} (h : ∀ r∈a,r.length=n) : ∀ r∈CX c a,r.length=n:=λ r hr=>by
 obtain ⟨s,hs,rfl⟩:=List.mem_map.1 hr;rw[List.length_map];exact h s hs
theorem AkE {n:Nat} (c:Rat) {a:List (List Rat)} (h:Sq n a):Sq n (CX c a):=⟨by rw[oS,h.l],gQ c h.r⟩
theorem AkD {c:Rat} {a:List (List Rat)} {i:Nat} {r:List Rat} (h:a[i]? = some r):(CX c a)[i]? = some (r.map (· * c)):=by rw[CX,List.getElem?_map,h];rfl
theorem AhJ (r:List Rat) (c:Rat) (j:Nat):(r.map (· * c)).getD j 0=r.getD j 0*c:=by
 rw[List.getD_eq_getElem?_getD,List.getD_eq_getElem?_getD,List.getElem?_map];cases r[j]? with
 | none=>simp [Rat.zero_mul]
 | some x=>rfl
theorem Aeh (c:Rat) (a:List (List Rat)) (j:Nat):DB (CX c a) j=(DB a j).map (· * c):=by
 rw[DB,DB,CX,List.map_map,List.map_map];exact List.map_congr_left λ r _=>AhJ r c j
theorem uM (c d:Rat) (u v:List Rat):A0 (u.map (· * c)) (v.map (· * d))=A0 u v*(c*d):=by
 rw[YA,IW,YA,IW];grind
theorem Aji (c d:Rat) (a b:List (List Rat)) (n:Nat):F2 (CX c a) (CX d b) n=CX (c*d) (F2 a b n):=by
 show (a.map λ r=>r.map (· * c)).map (λ r=>EH r (CX d b) n)=(a.map λ r=>EH r b n).map (λ r=>r.map (· * (c*d)));rw[List.map_map,List.map_map];refine List.map_congr_left λ r _ => ?_
 show EH (r.map (· * c)) (CX d b) n=(EH r b n).map (· * (c*d));rw[EH,EH,List.map_map];refine List.map_congr_left λ j _ => ?_
 show A0 (r.map (· * c)) (DB (CX d b) j)=A0 r (DB b j)*(c*d);rw[Aeh,uM]
theorem Ajp (c d:Rat) (a:List (List Rat)) (v:List Rat):D5 (CX c a) (v.map (· * d))=(D5 a v).map (· * (c*d)):=by
 show (a.map λ r=>r.map (· * c)).map (λ r=>A0 r (v.map (· * d)))=(a.map λ r=>A0 r v).map (· * (c*d));rw[List.map_map,List.map_map];exact List.map_congr_left λ r _=>uM c d r v
def D9 (D:Rat):Nat->Rat
 | 0=>D
 | i+1=>D9 D i*D9 D i
theorem kH {D:Rat} (h:0<D) : ∀ i,0<D9 D i
 | 0=>h
 | i+1=>Rat.mul_pos (kH h i) (kH h i)
theorem Tb (n:Nat) (a:List (List Rat)) (D:Rat) (i:Nat):F2 (CX (D9 D i) (B6 n a i)) (CX (D9 D i) (B6 n a i)) n=CX (D9 D (i+1)) (B6 n a (i+1)):=Aji _ _ _ _ _
theorem xM {s D:Rat} (hD:0<D):s*D+s*D<=D↔s<=1/2:=by
 have e:s*D+s*D=(s+s)*D:=by grind
 have h1:(s+s)*D<=1*D↔s+s<=1:=⟨λ h=>Rat.le_of_mul_le_mul_right h hD,λ h=>Rat.mul_le_mul_of_nonneg_right h (by grind)⟩;rw[Rat.one_mul]at h1;rw[e,h1];constructor<;>intro h<;>grind
theorem So {k:Nat} {x:Rat} (hx:Bt k x) {S:Nat} {z:Int} (hz:x*(S:Rat)=(z:Rat)) {M:Nat} (hS:S<=2^M):Wh (k+M) (x*(S:Rat)):=by
 refine ⟨z,hz,?_⟩;have h1:=VP x;have h2:((z*(x.den:Int):Int):Rat)=((x.num*(S:Int):Int):Rat):=by
  rw[Rat.intCast_mul,Rat.intCast_mul,<-h1,<-hz,Rat.intCast_natCast,Rat.intCast_natCast];grind
 have h3:=congrArg Int.natAbs (Rat.intCast_inj.1 h2);rw[Int.natAbs_mul,Int.natAbs_mul,Int.natAbs_natCast,Int.natAbs_natCast]at h3;have h4:z.natAbs<=z.natAbs*x.den:=Nat.le_mul_of_pos_right _ x.den_pos;rw[Nat.pow_add];exact Nat.le_trans h4 (by rw[h3];exact Nat.mul_le_mul hx.1 hS)
theorem Aks (S:Nat) (x:Rat):((S:Rat)*x).den ∣ x.den:=by
 refine dQ (z:=S*x.num) ?_;have h:=VP x;rw[Rat.intCast_mul,<-h,Rat.intCast_natCast];grind
theorem Ql {k:Nat} : ∀ (l:List Rat) (S:Nat),0<S->Bs k l -> ∃ S':Nat,l.foldl TJ (S:Rat)=(S':Rat)/\0<S'/\S'<=S*2^(l.length*k)/\S ∣ S' /\ ∀ x∈l,∃ z:Int,x*(S':Rat)=(z:Rat)
 | [],S,h,_=>⟨S,rfl,h,by simp,Nat.dvd_refl S,λ x hx=>by cases hx⟩
 | x::l,S,h,hb=>by
  have h1:=Aks S x;have hx:=hb x List.mem_cons_self;have h2:((S:Rat)*x)*((((S:Rat)*x).den:Nat):Rat)=(((S:Rat)*x).num:Rat):=VP _;have h3:=Nat.le_of_dvd x.den_pos h1;have h4:=((S:Rat)*x).den_pos;generalize ((S:Rat)*x).num=u at h2;obtain ⟨S',e,p1,p2,p3,p4⟩:=Ql l (S*((S:Rat)*x).den) (Nat.mul_pos h h4) λ y hy=>hb y (List.mem_cons_of_mem _ hy)
  refine ⟨S',by rw[List.foldl_cons,<-e,TJ,Rat.natCast_mul],p1,?_,Nat.dvd_trans (Nat.dvd_mul_right _ _) p3,λ y hy => ?_⟩
  ·have h5:S*((S:Rat)*x).den<=S*2^k:=Nat.mul_le_mul_left S (Nat.le_trans h3 hx.2)
   have h6:=Nat.mul_le_mul_right (2^(l.length*k)) h5;rw[List.length_cons,Nat.succ_mul,Nat.pow_add,Nat.mul_comm (2^(l.length*k)),<-Nat.mul_assoc];exact Nat.le_trans p2 h6
  ·rcases List.mem_cons.1 hy with rfl|hy
   ·obtain ⟨t,rfl⟩:=p3
    refine ⟨u*(t:Int),?_⟩;rw[Rat.natCast_mul,Rat.natCast_mul,Rat.intCast_mul,<-h2,Rat.intCast_natCast];grind
   ·exact p4 y hy
theorem oK {k:Nat} {l:List Rat} (hb:Bs k l) : ∃ S:Nat,C1 l=(S:Rat)/\0<S/\S<=2^(l.length*k) /\ ∀ x∈l,∃ z:Int,x*(S:Rat)=(z:Rat):=by
 obtain ⟨S,e,h1,h2,_,h3⟩:=Ql l 1 (by omega) hb;exact ⟨S,e,h1,by rwa [Nat.one_mul]at h2,h3⟩
theorem AeO (S:Nat) (x:Rat):((S:Rat)/(x.den:Rat)).den=((S:Rat)*x).den:=by
 have yu:(x.den:Rat)≠0:=λ e=>by
  have:((x.den:Nat):Rat)=((0:Nat):Rat):=e
  have:=Rat.natCast_inj.1 this
  have:=x.den_pos
  omega
 have hx:=VP x;refine Nat.dvd_antisymm ?_ ?_
 ·-- e=(S x).den: e S num/d whole,so d ∣ e S
  have h1:=VP ((S:Rat)*x);generalize hE:((S:Rat)*x).den=E at *;generalize ((S:Rat)*x).num=u at h1;have h2:(((E*S:Nat):Int)*x.num:Int)=u*(x.den:Int):=by
   refine Rat.intCast_inj.1 ?_;rw[Rat.intCast_mul,Rat.intCast_mul,<-hx,<-h1,Rat.intCast_natCast,Rat.intCast_natCast,Rat.natCast_mul];grind
  have h3:x.den ∣ E*S*x.num.natAbs:=by
   have h4:(x.den:Int) ∣ ((E*S:Nat):Int)*x.num:=⟨u,by rw[h2,Int.mul_comm]⟩;have:=Int.natAbs_dvd_natAbs.2 h4
   rw[Int.natAbs_mul,Int.natAbs_natCast,Int.natAbs_natCast]at this;exact this
  obtain ⟨t,ht⟩:=Nat.Coprime.dvd_of_dvd_mul_right (Nat.Coprime.symm x.reduced) h3;refine dQ (z:=t) ?_;have h5:((E*S:Nat):Rat)=((x.den*t:Nat):Rat):=congrArg _ ht;rw[Rat.natCast_mul,Rat.natCast_mul]at h5;rw[Rat.div_def,<-Rat.mul_assoc,h5,Rat.intCast_natCast];have:=Rat.mul_inv_cancel _ yu
  grind
 ·have h1:=VP ((S:Rat)/(x.den:Rat))
  generalize ((S:Rat)/(x.den:Rat)).num=u at h1;generalize ((S:Rat)/(x.den:Rat)).den=E at *;refine dQ (z:=u*x.num) ?_;rw[Rat.intCast_mul,<-h1,<-hx,Rat.div_def];have:=Rat.mul_inv_cancel _ yu
  grind
def F7 (a:List (List Rat)) (b:List Rat):Nat->List Rat
 | 0=>b
 | k+1=>D5 a (F7 a b k)
theorem Sh {a:List (List Rat)} {b:List Rat} {n:Nat} (ha:a.length=n) (hb:b.length=n) : ∀ k,(F7 a b k).length=n
 | 0=>hb
 | k+1=>by rw[F7,mY,ha]
theorem qG (a:List (List Rat)) (b:List Rat) (k:Nat) : ∀ m,F7 a b (k+m)=F7 a (F7 a b k) m
 | 0=>rfl
 | m+1=>by rw[<-Nat.add_assoc,F7,qG a b k m];rfl
theorem pF {n:Nat} {a:List (List Rat)} (h:Sq n a) : ∀ (i:Nat) (v:List Rat),v.length=n->D5 (B6 n a i) v=F7 a v (2^i)
 | 0,_,_=>rfl
 | i+1,v,hv=>by
  rw[B6,Ajo _ _ _ (UW h i).r,pF h i v hv,pF h i _ (Sh h.l hv _),<-qG,Nat.pow_succ,Nat.mul_two]
theorem Aer {a:List (List Rat)} (h:DJ a=true) : ∀ r∈a,BL r<=1/2:=λ r hr=>by
 have:=List.all_eq_true.1 h r hr
 simpa using this
theorem Aeq {a:List (List Rat)}:DJ a=true ↔ ∀ r∈a,BL r<=1/2:=by
 rw[DJ,List.all_eq_true];exact ⟨λ h r hr=>by simpa using h r hr,λ h r hr=>by simpa using h r hr⟩
theorem pM {f g:Nat->Rat} : ∀ n,(∀ j,j<n->f j<=g j)->BF f n<=BF g n
 | 0,_=>Rat.le_refl
 | n+1,h=>by
  have h1:=pM n λ j hj=>h j (by omega)
  have h2:=h n (by omega);simp only[BF];exact rR h1 h2
theorem pP {f:Nat->Rat} (h : ∀ j,0<=f j) : ∀ n,0<=BF f n
 | 0=>Rat.le_refl
 | n+1=>by
  have h1:=pP h n;have h2:=h n;simp only[BF];grind
theorem To {f:Nat->Rat} {c:Rat} : ∀ n,BF (λ j=>c*f j) n=c*BF f n
 | 0=>by simp only[BF];grind
 | n+1=>by simp only[BF,To n];grind
def TD (a:List (List Rat)) (b:List Rat) (k:Nat):Rat:=WT (F7 a b k)
theorem AhK {n:Nat} {a:List (List Rat)} {b:List Rat} (ha:Sq n a) (hb:b.length=n) {i:Nat} (hc:DJ (B6 n a i)=true) (j:Nat):TD a b (2^i+j)<=(1/2)*TD a b j:=by
 rw[TD,TD,Nat.add_comm,qG,<-pF ha i _ (Sh ha.l hb j)];exact Ajq (by grind) (Aer hc) _
theorem sE {k:Nat} {x:Rat} {S:Nat} (hS:0<S) (sv:S<=2^k) (h:Wh k (x*(S:Rat))):Bt k x:=by
 obtain ⟨z,hz,hk⟩:=h;have h0:(S:Rat)≠0:=λ e=>by
  have:((S:Nat):Rat)=((0:Nat):Rat):=e
  have:=Rat.natCast_inj.1 this
  omega
 have e:x=mkRat z S:=by
  rw[Rat.mkRat_eq_div,<-hz,Rat.div_def,Rat.mul_assoc,Rat.mul_inv_cancel _ h0,Rat.mul_one]
 rw[e];exact Bt.mk hk sv
theorem Alp {k l n:Nat} {a:List (List Rat)} {v:List Rat} (ha : ∀ r∈a,∀ x∈r,Wh k x) (hl : ∀ r∈a,r.length=n) (hv : ∀ x∈v,Wh l x) : ∀ x∈D5 a v,Wh (k+l+n) x:=λ x hx=>by
 obtain ⟨r,hr,rfl⟩:=List.mem_map.1 hx;have:=Wh.dot (ha r hr) hv
 rwa [hl r hr]at this
theorem Pj {n k:Nat} {a:List (List Rat)} (hs:Sq n a) (hb:Ms k a) : ∃ S:Nat,C1 a.flatten=(S:Rat)/\0<S/\S<=2^(n*n*k) /\ ∀ r∈CX (S:Rat) a,∀ x∈r,Wh (k+n*n*k) x:=by
 have hl:a.flatten.length=n*n:=by
  have : ∀ (a:List (List Rat)),(∀ r∈a,r.length=n)->a.flatten.length=a.length*n:=by
   intro a;induction a with
   | nil=>intro _;simp
   | cons r a ih =>
    intro h;rw[List.flatten_cons,List.length_append,ih λ x hx=>h x (List.mem_cons_of_mem _ hx),h r List.mem_cons_self,List.length_cons,Nat.succ_mul,Nat.add_comm]
  rw[this a hs.r,hs.l]
 have hbf:Bs k a.flatten:=λ x hx=>by
  obtain ⟨r,hr,hx⟩:=List.mem_flatten.1 hx;exact hb r hr x hx
 obtain ⟨S,e,h1,h2,h3⟩:=oK hbf;rw[hl]at h2;refine ⟨S,e,h1,h2,λ r hr x hx => ?_⟩;obtain ⟨s,hs,rfl⟩:=List.mem_map.1 hr;obtain ⟨y,hy,rfl⟩:=List.mem_map.1 hx;obtain ⟨z,hz⟩:=h3 y (List.mem_flatten.2 ⟨s,hs,hy⟩);exact So (hb s hs y hy) hz h2
theorem AiV {n k:Nat} {b:List Rat} (hl:b.length=n) (hb:Bs k b) : ∃ S:Nat,C1 b=(S:Rat)/\0<S/\S<=2^(n*k) /\ ∀ x∈b.map (· * (S:Rat)),Wh (k+n*k) x:=by
 obtain ⟨S,e,h1,h2,h3⟩:=oK hb;rw[hl]at h2;refine ⟨S,e,h1,h2,λ x hx => ?_⟩;obtain ⟨y,hy,rfl⟩:=List.mem_map.1 hx;obtain ⟨z,hz⟩:=h3 y hy;exact So (hb y hy) hz h2
def XN (a:List (List Rat)) (b:List Rat) (D E:Rat) (j:Nat):List Rat:=(F7 a b j).map (· * (E*D^j))
theorem AlB (a:List (List Rat)) (b:List Rat) (D E:Rat):XN a b D E 0=b.map (· * E):=by
 rw[XN,Rat.pow_zero,Rat.mul_one];rfl
theorem AlA (a:List (List Rat)) (b:List Rat) (D E:Rat) (j:Nat):XN a b D E (j+1)=D5 (CX D a) (XN a b D E j):=by
 rw[XN,XN,Ajp,F7];refine List.map_congr_left λ x _ => ?_
 rw[Rat.pow_succ];grind
def XM (n k j:Nat):Nat:=(k+n*k)+j*((k+n*n*k)+n)
theorem Sv {n k:Nat} {a:List (List Rat)} {b:List Rat} {D E:Nat} (hs:Sq n a) (hA : ∀ r∈CX (D:Rat) a,∀ x∈r,Wh (k+n*n*k) x) (hB : ∀ x∈b.map (· * (E:Rat)),Wh (k+n*k) x) : ∀ j,∀ x∈XN a b D E j,Wh (XM n k j) x
 | 0=>by
  rw[AlB];intro x hx;exact (hB x hx).le (by rw[XM];omega)
 | j+1=>by
  rw[AlA];intro x hx;refine (Alp hA (gQ _ hs.r) (Sv hs hA hB j) x hx).le ?_;simp only[XM,Nat.succ_mul];omega
theorem AjN (D j:Nat):(D:Rat)^j=((D^j:Nat):Rat):=by
 induction j with
 | zero=>rfl
 | succ j ih=>rw[Rat.pow_succ,ih,Nat.pow_succ,Rat.natCast_mul]
theorem Alk {n k:Nat} {a:List (List Rat)} {b:List Rat} (hs:Sq n a) (hb:b.length=n) (ha:Ms k a) (jo:Bs k b) (j:Nat):Bs (XM n k j) (F7 a b j):=by
 obtain ⟨D,_,d1,d2,d3⟩:=Pj hs ha;obtain ⟨E,_,e1,e2,e3⟩:=AiV hb jo;have hw:=Sv hs d3 e3 j;intro x hx;refine sE (S:=E*D^j) (Nat.mul_pos e1 (Nat.pow_pos d1)) ?_ ?_
 ·have h1:D^j<=2^(n*n*k*j):=by rw[Nat.pow_mul];exact Nat.pow_le_pow_left d2 j
  refine Nat.le_trans (Nat.mul_le_mul e2 h1) ?_;rw[<-Nat.pow_add];refine Nat.pow_le_pow_right (by omega) ?_;rw[XM,Nat.mul_add,Nat.mul_add,Nat.mul_comm (n*n*k) j];omega
 ·refine hw _ (List.mem_map.2 ⟨x,hx,?_⟩)
  rw[AjN,Rat.natCast_mul]
def OV (n:Nat) (a:List (List Rat)) (i:Nat):Prop:=DJ (B6 n a i)=true /\ ∀ j,j<i->DJ (B6 n a j)=false
def FC (k:Nat):Nat->Nat
 | 0=>k
 | i+1=>4*(FC k i+FC k i+1)
theorem AkR {k:Nat} : ∀ i,i<=7->FC k i<=2097152*k+1198372:=by
 intro i hi;have h1:FC k 0=k:=rfl;have e1:FC k 1=4*(FC k 0+FC k 0+1):=rfl;have e2:FC k 2=4*(FC k 1+FC k 1+1):=rfl;have e3:FC k 3=4*(FC k 2+FC k 2+1):=rfl;have e4:FC k 4=4*(FC k 3+FC k 3+1):=rfl;have e5:FC k 5=4*(FC k 4+FC k 4+1):=rfl;have e6:FC k 6=4*(FC k 5+FC k 5+1):=rfl;have e7:FC k 7=4*(FC k 6+FC k 6+1):=rfl;obtain rfl|rfl|rfl|rfl|rfl|rfl|rfl|rfl:i=0\/i=1\/i=2\/i=3\/i=4\/i=5\/i=6\/i=7:=by omega
 all_goals omega
theorem pE {n k:Nat} {a:List (List Rat)} (hs:Sq n a) (ha:Ms k a) (hn:n<=4) : ∀ i,Ms (FC k i) (B6 n a i)
 | 0=>ha
 | i+1=>(Ms.mul (pE hs ha hn i) (UW hs i) (pE hs ha hn i)).le (Nat.mul_le_mul_right _ hn)
def E7 (k:Nat):Nat->Nat
 | 0=>17*k
 | i+1=>E7 k i+E7 k i+4
theorem Alw {k:Nat} : ∀ i,i<=7->E7 k i<=2176*k+508:=by
 intro i hi;have h1:E7 k 0=17*k:=rfl;have e1:E7 k 1=E7 k 0+E7 k 0+4:=rfl;have e2:E7 k 2=E7 k 1+E7 k 1+4:=rfl;have e3:E7 k 3=E7 k 2+E7 k 2+4:=rfl;have e4:E7 k 4=E7 k 3+E7 k 3+4:=rfl;have e5:E7 k 5=E7 k 4+E7 k 4+4:=rfl;have e6:E7 k 6=E7 k 5+E7 k 5+4:=rfl;have e7:E7 k 7=E7 k 6+E7 k 6+4:=rfl;obtain rfl|rfl|rfl|rfl|rfl|rfl|rfl|rfl:i=0\/i=1\/i=2\/i=3\/i=4\/i=5\/i=6\/i=7:=by omega
 all_goals omega
theorem Alo {k l n:Nat} {a b:List (List Rat)} (ha : ∀ r∈a,∀ x∈r,Wh k x) (hl : ∀ r∈a,r.length=n) (hb : ∀ r∈b,∀ x∈r,Wh l x) : ∀ r∈F2 a b n,∀ x∈r,Wh (k+l+n) x:=λ r hr x hx=>by
 obtain ⟨s,hs,rfl⟩:=List.mem_map.1 hr;obtain ⟨j,_,rfl⟩:=List.mem_map.1 hx;have hc : ∀ x∈DB b j,Wh l x:=λ x hx=>by
  obtain ⟨t,ht,rfl⟩:=List.mem_map.1 hx;rw[List.getD_eq_getElem?_getD];cases e:t[j]? with
  | none=>exact Wh.zero l
  | some y=>exact hb t ht y (zM e)
 have:=Wh.dot (ha s hs) hc
 rwa [hl s hs]at this
theorem pG {n k:Nat} {a:List (List Rat)} {D:Nat} (hs:Sq n a) (hn:n<=4) (hA : ∀ r∈CX (D:Rat) a,∀ x∈r,Wh (k+n*n*k) x) : ∀ i,∀ r∈CX (D9 (D:Rat) i) (B6 n a i),∀ x∈r,Wh (E7 k i) x
 | 0=>λ r hr x hx=>(hA r hr x hx).le (by
   show k+n*n*k<=17*k;have:n*n<=4*4:=Nat.mul_le_mul hn hn
   have:=Nat.mul_le_mul_right k this
   omega)
 | i+1=>λ r hr x hx=>by
  rw[<-Tb]at hr;exact (Alo (pG hs hn hA i) (gQ _ (UW hs i).r) (pG hs hn hA i) r hr x hx).le (by simp only[E7];omega)
theorem kI {D M:Nat} (hD:D<=2^M) : ∀ i,Wh (2^i*M) (D9 (D:Rat) i)
 | 0=>⟨(D:Int),by rw[D9,Rat.intCast_natCast],by rw[Nat.pow_zero,Nat.one_mul];simpa using hD⟩
 | i+1=>((kI hD i).mul (kI hD i)).le (by rw[Nat.pow_succ,Nat.mul_two,Nat.add_mul];exact Nat.le_refl _)
theorem Aes {n i:Nat} {a:List (List Rat)} {D:Rat} (hD:0<D):(∀ r∈CX (D9 D i) (B6 n a i),BL r+BL r<=D9 D i)↔DJ (B6 n a i)=true:=by
 have hp:=kH hD i;rw[Aeq];constructor
 ·intro h r hr
  have:=h _ (List.mem_map.2 ⟨r,hr,rfl⟩)
  rw[oR (by grind)]at this;exact (xM hp).1 this
 ·intro h r hr
  obtain ⟨s,hs,rfl⟩:=List.mem_map.1 hr;rw[oR (by grind)];exact (xM hp).2 (h s hs)
theorem bK {k:Nat} : ∀ {l:List Rat},Bs k l->Bt (l.length*(k+1)) (BL l)
 | [],_=>Bt.zero _
 | x::l,h=>by
  have h1:=bK (l:=l) λ y hy=>h y (List.mem_cons_of_mem _ hy)
  have h2:Bt k (C3 x):=by
   unfold C3;split
   ·exact (h x List.mem_cons_self).wy
   ·exact h x List.mem_cons_self
  refine (h2.add h1).le ?_;rw[List.length_cons,Nat.succ_mul];omega
theorem rO {k:Nat} {x:Rat} (h:Bt k x):Bt k (C3 x):=by
 unfold C3;split
 ·exact h.wy
 ·exact h
end Go.c9

namespace Go.c9
theorem Wh.of_dvd {k S T:Nat} {x:Rat} (hT:1<=T) (h:Wh k (((S*T:Nat):Rat)*x)) (hz : ∃ z:Int,x*(S:Rat)=(z:Rat)):Wh k (x*(S:Rat)):=by
 obtain ⟨z,hz⟩:=hz;obtain ⟨u,hu,hb⟩:=h;refine ⟨z,hz,?_⟩;have e:((z*(T:Int):Int):Rat)=(u:Rat):=by
  rw[Rat.intCast_mul,<-hz,<-hu,Rat.natCast_mul,Rat.intCast_natCast];grind
 have e2:=Rat.intCast_inj.1 e;have:z.natAbs*T=u.natAbs:=by rw[<-e2,Int.natAbs_mul,Int.natAbs_natCast]
 have h2:z.natAbs<=z.natAbs*T:=Nat.le_mul_of_pos_right _ (by omega);omega
theorem Qn {M k m:Nat} {l:List Rat} (hM:1<=M) (hm:M<=2^m) (h : ∀ x∈l,Wh k ((M:Rat)*x)):Wh m (C1 l) /\ ∀ x∈l,Wh k (x*C1 l):=by
 obtain ⟨S,e,⟨T,hT⟩,hz⟩:=Akw (M:=M) (l:=l) λ x hx=>by
  obtain ⟨z,hz,_⟩:=h x hx;exact ⟨z,hz⟩
 have Bu:1<=T:=by
  rcases Nat.eq_zero_or_pos T with h0|h0
  ·rw[h0]at hT;omega
  ·exact h0
 refine ⟨⟨(S:Int),by rw[e,Rat.intCast_natCast],?_⟩,λ x hx => ?_⟩
 ·rw[Int.natAbs_natCast]
  have:S<=S*T:=Nat.le_mul_of_pos_right _ (by omega)
  omega
 ·have h1:=h x hx
  rw[hT]at h1;rw[e];exact Wh.of_dvd Bu h1 (by rw[<-e];exact hz x hx)
section
variable {M ky:Nat} {g:List Pt}
end
end Go.c9

namespace Go.c9
set_option maxHeartbeats 8000000
theorem V1 {M k:Nat} {a b:Int} {T:Int} (hb:1<=b) (hT:b*T=(M:Int)) (ha:(T*a).natAbs<=2^k):Wh k ((M:Rat)*Rat.divInt a b):=by
 refine ⟨T*a,?_,ha⟩;have h0:(b:Rat)≠0:=λ e=>by
  have:(b:Rat)=((0:Int):Rat):=e
  have:=Rat.intCast_inj.1 this
  omega
 have h1:=Rat.div_mul_cancel h0 (a:=(a:Rat));rw[Rat.divInt_eq_div,show ((M:Nat):Rat)=((b*T:Int):Rat) by rw[hT,Rat.intCast_natCast],Rat.intCast_mul,Rat.intCast_mul];generalize (a:Rat)/(b:Rat)=q at *;rw[<-h1];grind
theorem Aln {a b:Int} (ha : -12<=a/\a<=12) (hb:1<=b/\b<=8):Wh 14 (((840:Nat):Rat)*Rat.divInt a b):=by
 have:b=1\/b=2\/b=3\/b=4\/b=5\/b=6\/b=7\/b=8:=by omega
 rcases this with rfl|rfl|rfl|rfl|rfl|rfl|rfl|rfl
 ·exact V1 (T:=840) (by omega) (by decide) (by omega)
 ·exact V1 (T:=420) (by omega) (by decide) (by omega)
 ·exact V1 (T:=280) (by omega) (by decide) (by omega)
 ·exact V1 (T:=210) (by omega) (by decide) (by omega)
 ·exact V1 (T:=168) (by omega) (by decide) (by omega)
 ·exact V1 (T:=140) (by omega) (by decide) (by omega)
 ·exact V1 (T:=120) (by omega) (by decide) (by omega)
 ·exact V1 (T:=105) (by omega) (by decide) (by omega)
theorem Bt.Xa {k:Nat} {x:Rat} (h:Bt k x):Bt k (-x):=⟨by rw[Rat.neg_num,Int.natAbs_neg];exact h.1,by rw[Rat.neg_den];exact h.2⟩
def dz (n i j:Nat):Nat:=i*n-i*(i-1)/2+j-i
def DN (i m:Nat):List (Nat × Nat):=(List.range m).map λ t=>(i,i+t)
def BC (n:Nat):Nat->List (Nat × Nat)
 | 0=>[]
 | i+1=>BC n i++DN i (n-i)
theorem Rk (i m:Nat):DN i (m+1)=DN i m++[(i,i+m)]:=by
 rw[DN,List.range_succ,List.map_append];rfl
theorem YY (i m:Nat):(DN i m).length=m:=by simp [DN]
theorem Rj {n:Nat} : ∀ {m i j:Nat},(i,j)∈BC n m->i<m/\i<=j/\j<n
 | 0,_,_,h=>by cases h
 | m+1,i,j,h=>by
  rcases List.mem_append.1 h with h|h
  ·have:=Rj h;omega
  ·obtain ⟨t,ht,e⟩:=List.mem_map.1 h
   have:=List.mem_range.1 ht
   have h1:=congrArg Prod.fst e;have h2:=congrArg Prod.snd e;simp only at h1 h2;omega
theorem TN {n:Nat} (h:n<=3):n=0\/n=1\/n=2\/n=3:=by omega
theorem AjL {n:Nat} (hn:n<=3):(BC n n).length=n*(n+1)/2:=by
 rcases TN hn with rfl|rfl|rfl|rfl<;>rfl
theorem fW {n:Nat} (hn:n<=3):(BC n n).length<=6:=by
 rcases TN hn with rfl|rfl|rfl|rfl<;>decide
def gC (A:List (List Rat)) (p q:Nat × Nat):Rat :=
 if q=p then (if q.1=q.2 then -(A4 A p.1 q.1*A4 A p.2 q.2) else -(A4 A p.1 q.1*A4 A p.2 q.2)-A4 A p.1 q.2*A4 A p.2 q.1)+1
 else if q.1=q.2 then -(A4 A p.1 q.1*A4 A p.2 q.2) else -(A4 A p.1 q.1*A4 A p.2 q.2)-A4 A p.1 q.2*A4 A p.2 q.1
def DZ (A:List (List Rat)) (n:Nat) (p:Nat × Nat):List Rat:=(BC n n).map (gC A p)
def gM (A:List (List Rat)) (n:Nat):List (List Rat):=(BC n n).map (DZ A n)
def bQ (B:List Rat) (i:Nat):Rat:=B.getD i 0
theorem cV {B:List Rat} {i:Nat} {x:Rat} (h:B[i]? = some x):bQ B i=x:=by rw[bQ,List.getD_eq_getElem?_getD,h];rfl
def gR (B:List Rat) (n:Nat):List Rat:=(BC n n).map λ p=>bQ B p.1*bQ B p.2
theorem E3 {k:Nat} {A:List (List Rat)} (h:Ms k A) (i j:Nat):Bt k (A4 A i j):=by
 cases e:A[i]? with
 | none =>
  rw[A4,show A.getD i []=[] by rw[List.getD_eq_getElem?_getD,e];rfl];exact Bt.zero k
 | some r =>
  rw[J5 e];exact Bs.getD (h.at e) j
theorem AhC {k:Nat} {A:List (List Rat)} (h:Ms k A) (p q:Nat × Nat):Bt (4*k+2) (gC A p q):=by
 have h1:=((E3 h p.1 q.1).mul (E3 h p.2 q.2)).Xa;have h2:=(E3 h p.1 q.2).mul (E3 h p.2 q.1);unfold gC;split<;>split
 ·exact (h1.add (Bt.one 0)).le (by omega)
 ·exact ((h1.mr h2).add (Bt.one 0)).le (by omega)
 ·exact h1.le (by omega)
 ·exact (h1.mr h2).le (by omega)
theorem AhE {k:Nat} {A:List (List Rat)} (h:Ms k A) (n:Nat):Ms (4*k+2) (gM A n):=λ r hr=>by
 obtain ⟨p,_,rfl⟩:=List.mem_map.1 hr;intro x hx;obtain ⟨q,_,rfl⟩:=List.mem_map.1 hx;exact AhC h p q
theorem AhG {k:Nat} {B:List Rat} (h:Bs k B) (n:Nat):Bs (4*k+2) (gR B n):=λ x hx=>by
 obtain ⟨p,_,rfl⟩:=List.mem_map.1 hx;exact ((Bs.getD h p.1).mul (Bs.getD h p.2)).le (by omega)
theorem YO {n:Nat} (A:List (List Rat)):Sq (BC n n).length (gM A n):=⟨by simp [gM],λ r hr=>by
 obtain ⟨p,_,rfl⟩:=List.mem_map.1 hr;simp [DZ]⟩
theorem eI (B:List Rat) (n:Nat):(gR B n).length=(BC n n).length:=by simp [gR]
theorem AhF {M k:Nat} {A:List (List Rat)} (h : ∀ i j,Wh k ((M:Rat)*A4 A i j)) (hM:M<=2^k) {n:Nat} : ∀ r∈gM A n,∀ x∈r,Wh (2*k+2) (((M*M:Nat):Rat)*x):=λ r hr x hx=>by
 obtain ⟨p,_,rfl⟩:=List.mem_map.1 hr;obtain ⟨q,_,rfl⟩:=List.mem_map.1 hx;have h1:=(h p.1 q.1).mul (h p.2 q.2);have h2:=(h p.1 q.2).mul (h p.2 q.1);have h3:Wh (k+k) (((M*M:Nat):Rat)):=⟨((M*M:Nat):Int),by rw[Rat.intCast_natCast],by
  rw[Int.natAbs_natCast,Nat.pow_add];exact Nat.mul_le_mul hM hM⟩
 have e1:(M:Rat)*A4 A p.1 q.1*((M:Rat)*A4 A p.2 q.2)=((M*M:Nat):Rat)*(A4 A p.1 q.1*A4 A p.2 q.2):=by rw[Rat.natCast_mul];grind
 have e2:(M:Rat)*A4 A p.1 q.2*((M:Rat)*A4 A p.2 q.1)=((M*M:Nat):Rat)*(A4 A p.1 q.2*A4 A p.2 q.1):=by rw[Rat.natCast_mul];grind
 rw[e1]at h1;rw[e2]at h2;unfold gC;generalize A4 A p.1 q.1*A4 A p.2 q.2=u at *;generalize A4 A p.1 q.2*A4 A p.2 q.1=v at *;generalize ((M*M:Nat):Rat)=w at *;split<;>split
 ·rw[show w*(-u+1) = -(w*u)+w by grind]
  exact (h1.neg.add h3).le (by omega)
 ·rw[show w*(-u-v+1) = -(w*u)-w*v+w by grind]
  exact ((h1.neg.sub h2).add (h3.le (Nat.le_succ _))).le (by omega)
 ·rw[show w * -u = -(w*u) by grind]
  exact h1.neg.le (by omega)
 ·rw[show w*(-u-v) = -(w*u)-w*v by grind]
  exact (h1.neg.sub h2).le (by omega)
def kM (X:List Rat) (n:Nat):List (List Rat):=(List.range n).map λ i=>(List.range n).map λ j=>X.getD (dz n (min i j) (max i j)) 0
theorem aL (X:List Rat) (n:Nat):Sq n (kM X n):=⟨by simp [kM],λ r hr=>by
 obtain ⟨i,_,rfl⟩:=List.mem_map.1 hr;simp⟩
theorem mH (X:List Rat) {n i j:Nat} (hi:i<n) (hj:j<n):A4 (kM X n) i j=X.getD (dz n (min i j) (max i j)) 0:=by
 rw[J5 (r:=(List.range n).map λ j=>X.getD (dz n (min i j) (max i j)) 0) (by rw[kM,List.getElem?_map,List.getElem?_range hi];rfl),List.getD_eq_getElem?_getD,List.getElem?_map,List.getElem?_range hj];rfl
theorem mI {k:Nat} {X:List Rat} (h:Bs k X) (n:Nat):Ms k (kM X n):=λ r hr=>by
 obtain ⟨i,_,rfl⟩:=List.mem_map.1 hr;intro x hx;obtain ⟨j,_,rfl⟩:=List.mem_map.1 hx;exact Bs.getD h _
def H6 (A K:List (List Rat)) (n i j:Nat):Rat:=BF (λ a=>BF (λ b=>A4 A i a*A4 A j b*A4 K a b) n) n
def NY (A:List (List Rat)) (B X:List Rat) (n:Nat):Prop:=X.length=(BC n n).length /\ ∀ (i:Nat) (r:List Rat) (s:Rat),(gM A n)[i]? = some r->(gR B n)[i]? = some s->A0 r X=s
theorem NY.eq {A:List (List Rat)} {B X:List Rat} {n:Nat} (hn:n<=3) (h:NY A B X n) : ∀ i j,i<n->j<n->A4 (kM X n) i j=bQ B i*bQ B j+H6 A (kM X n) n i j:=by
 obtain ⟨hl,h⟩:=h;rcases TN hn with rfl|rfl|rfl|rfl
 ·intro i j hi;omega
 ·obtain ⟨x0,rfl⟩ : ∃ x0,X=[x0]:=by
   match X,hl with
   | [x0],_=>exact ⟨x0,rfl⟩
  have h0:=h 0 _ _ rfl rfl;simp [A0,DZ,gC,BC,DN,List.range_succ]at h0;intro i j hi hj;obtain rfl:i=0:=by omega
  obtain rfl:j=0:=by omega
  simp only[H6,BF,mH _ (show 0<1 by omega) (show 0<1 by omega)];show x0=_+(0+(0+_*x0));grind
 ·obtain ⟨x0,x1,x2,rfl⟩ : ∃ x0 x1 x2,X=[x0,x1,x2]:=by
   match X,hl with
   | [x0,x1,x2],_=>exact ⟨x0,x1,x2,rfl⟩
  have h0:=h 0 _ _ rfl rfl;have h1:=h 1 _ _ rfl rfl;have h2:=h 2 _ _ rfl rfl;simp [A0,DZ,gC,BC,DN,List.range_succ]at h0 h1 h2;have key : ∀ i j,i<2->j<2->A4 (kM [x0,x1,x2] 2) i j=if i=0 then (if j=0 then x0 else x1) else (if j=0 then x1 else x2):=by
   intro i j hi hj;rw[mH _ hi hj];obtain rfl|rfl:i=0\/i=1:=by omega
   all_goals obtain rfl|rfl:j=0\/j=1:=by omega
   all_goals rfl
  intro i j hi hj;rw[key i j hi hj];simp only[H6,BF,key 0 0 (by omega) (by omega),key 0 1 (by omega) (by omega),key 1 0 (by omega) (by omega),key 1 1 (by omega) (by omega)];obtain rfl|rfl:i=0\/i=1:=by omega
  all_goals obtain rfl|rfl:j=0\/j=1:=by omega
  all_goals simp
  all_goals grind
 ·obtain ⟨x0,x1,x2,x3,x4,x5,rfl⟩ : ∃ x0 x1 x2 x3 x4 x5,X=[x0,x1,x2,x3,x4,x5]:=by
   match X,hl with
   | [x0,x1,x2,x3,x4,x5],_=>exact ⟨x0,x1,x2,x3,x4,x5,rfl⟩
  have h0:=h 0 _ _ rfl rfl;have h1:=h 1 _ _ rfl rfl;have h2:=h 2 _ _ rfl rfl;have h3:=h 3 _ _ rfl rfl;have h4:=h 4 _ _ rfl rfl;have h5:=h 5 _ _ rfl rfl;clear h hl;simp [A0,DZ,gC,BC,DN,List.range_succ]at h0 h1 h2 h3 h4 h5;have key : ∀ i j,i<3->j<3->A4 (kM [x0,x1,x2,x3,x4,x5] 3) i j=if i=0 then (if j=0 then x0 else if j=1 then x1 else x2) else if i=1 then (if j=0 then x1 else if j=1 then x3 else x4) else (if j=0 then x2 else if j=1 then x4 else x5):=by
   intro i j hi hj;rw[mH _ hi hj];obtain rfl|rfl|rfl:i=0\/i=1\/i=2:=by omega
   all_goals obtain rfl|rfl|rfl:j=0\/j=1\/j=2:=by omega
   all_goals rfl
  intro i j hi hj;rw[key i j hi hj];simp only[H6,BF,key 0 0 (by omega) (by omega),key 0 1 (by omega) (by omega),key 0 2 (by omega) (by omega),key 1 0 (by omega) (by omega),key 1 1 (by omega) (by omega),key 1 2 (by omega) (by omega),key 2 0 (by omega) (by omega),key 2 1 (by omega) (by omega),key 2 2 (by omega) (by omega)];obtain rfl|rfl|rfl:i=0\/i=1\/i=2:=by omega
  all_goals obtain rfl|rfl|rfl:j=0\/j=1\/j=2:=by omega
  all_goals simp
  ·clear h1 h2 h3 h4 h5;grind
  ·clear h0 h2 h3 h4 h5;grind
  ·clear h0 h1 h3 h4 h5;grind
  ·clear h0 h2 h3 h4 h5;grind
  ·clear h0 h1 h2 h4 h5;grind
  ·clear h0 h1 h2 h3 h5;grind
  ·clear h0 h1 h3 h4 h5;grind
  ·clear h0 h1 h2 h3 h5;grind
  ·clear h0 h1 h2 h3 h4;grind
theorem NY.uniq {A:List (List Rat)} {B X Y:List Rat} {n:Nat} (hx:NY A B X n) (hy:NY A B Y n) (hs:NS (BC n n).length (gM A n)):X=Y:=by
 have h1:=hs (U6 X (Y.map (-1 * ·))) (by simp [U6,hx.1,hy.1]) (λ r hr=>by
  obtain ⟨i,hi⟩:=List.getElem?_of_mem hr;have w9:=(zS hi).1;obtain ⟨s,hs⟩ : ∃ s,(gR B n)[i]? = some s:=⟨_,zE (by rw[eI];rw[(YO A).l]at w9;exact w9)⟩;have e1:=hx.2 i r s hi hs;have e2:=hy.2 i r s hi hs;rw[kJ (by simp [hx.1,hy.1]),IW r (Y.map _),kK,IW Y r,e1,e2];grind)
 refine List.ext_getElem? λ i => ?_
 by_cases hi:i<(BC n n).length
 ·obtain ⟨x,fb⟩ : ∃ x,X[i]? = some x:=⟨_,zE (by rw[hx.1];exact hi)⟩
  obtain ⟨y,uo⟩ : ∃ y,Y[i]? = some y:=⟨_,zE (by rw[hy.1];exact hi)⟩;have h2:=h1 i;rw[List.getD_eq_getElem?_getD,U6,List.getElem?_zipWith,fb,List.getElem?_map,uo]at h2;have h3:x + -1*y=0:=h2;rw[fb,uo,show x=y by grind]
 ·rw[List.getElem?_eq_none (by rw[hx.1];omega),List.getElem?_eq_none (by rw[hy.1];omega)]
def VS (n:Nat) (row:List (Option Rat)) (k h:Nat) (v:Rat):List (Option Rat):=row.set (dz n (min k h) (max k h)) (some ((((row[dz n (min k h) (max k h)]?).getD none).getD 0)-v))
def I8 (n:Nat) (row:List (Option Rat)) (k:Nat) (f:Nat->Rat):Nat->List (Option Rat)
 | 0=>row
 | h+1=>VS n (I8 n row k f h) k h (f h)
def JV (n:Nat) (row:List (Option Rat)) (f:Nat->Nat->Rat):Nat->List (Option Rat)
 | 0=>row
 | k+1=>I8 n (JV n row f k) k (f k) n
def UP (n i j:Nat):List (Option Rat):=(List.replicate (n*(n+1)/2) none).set (dz n i j) (some 1)
theorem oA (n:Nat) (row:List (Option Rat)) (k:Nat) (f:Nat->Rat) : ∀ h,(I8 n row k f h).length=row.length
 | 0=>rfl
 | h+1=>by rw[I8,VS,List.length_set,oA n row k f h]
theorem Pv (n:Nat) (row:List (Option Rat)) (f:Nat->Nat->Rat) : ∀ k,(JV n row f k).length=row.length
 | 0=>rfl
 | k+1=>by rw[JV,oA,Pv n row f k]
theorem fY {n k h:Nat} (hn:n<=3) (hk:k<n) (hh:h<n):dz n (min k h) (max k h)<n*(n+1)/2:=by
 have h1 : ∀ n,n<4 -> ∀ k,k<n -> ∀ h,h<n->dz n (min k h) (max k h)<n*(n+1)/2:=by decide
 exact h1 n (by omega) k hk h hh
def OB (k:Nat) (row:List (Option Rat)):Prop := ∀ x,some x∈row->Bt k x
theorem OB.at {k:Nat} {row:List (Option Rat)} (h:OB k row) (i:Nat):Bt k (((row[i]?).getD none).getD 0):=by
 cases e:row[i]? with
 | none=>exact Bt.zero k
 | some o =>
  cases o with
  | none=>exact Bt.zero k
  | some x=>exact h x (zM e)
theorem Aj7 {n k l:Nat} {row:List (Option Rat)} {a b:Nat} {v:Rat} (h:OB k row) (hv:Bt l v):OB (k+l+1) (VS n row a b v):=λ x hx=>by
 rcases List.mem_or_eq_of_mem_set hx with hx|hx
 ·exact (h x hx).le (by omega)
 ·obtain rfl:=Option.some.inj hx
  exact (h.at _).mr hv
theorem oB {n k l:Nat} {row:List (Option Rat)} {a:Nat} {f:Nat->Rat} (h:OB k row) (hf : ∀ i,Bt l (f i)) : ∀ t,OB (k+t*(l+1)) (I8 n row a f t)
 | 0=>by simpa [I8] using h
 | t+1=>by
  have:=Aj7 (n:=n) (a:=a) (b:=t) (oB (n:=n) (a:=a) h hf t) (hf t)
  intro x hx;exact (this x hx).le (by rw[Nat.succ_mul];omega)
theorem Pw {n k l:Nat} {row:List (Option Rat)} {f:Nat->Nat->Rat} (h:OB k row) (hf : ∀ i j,Bt l (f i j)) : ∀ t,OB (k+t*(n*(l+1))) (JV n row f t)
 | 0=>by simpa [JV] using h
 | t+1=>by
  have:=oB (n:=n) (a:=t) (Pw (n:=n) h hf t) (hf t) n
  intro x hx;exact (this x hx).le (by rw[Nat.succ_mul];omega)
theorem Aj6 (n i j:Nat):OB 0 (UP n i j):=λ x hx=>by
 rcases List.mem_or_eq_of_mem_set hx with hx|hx
 ·have:=List.eq_of_mem_replicate hx
  cases this
 ·obtain rfl:=Option.some.inj hx
  exact Bt.one 0
theorem Aj5 {A:List (List Rat)} {n i j:Nat} (hn:n<=3) (fj:i<=j) (hj:j<n):JV n (UP n i j) (λ k h=>A4 A i k*A4 A j h) n=(DZ A n (i,j)).map some:=by
 rcases TN hn with rfl|rfl|rfl|rfl
 ·omega
 ·obtain rfl:j=0:=by omega
  obtain rfl:i=0:=by omega
  simp [JV,I8,VS,UP,DZ,gC,BC,DN,dz,List.range_succ];grind
 ·obtain ⟨rfl,rfl⟩|⟨rfl,rfl⟩|⟨rfl,rfl⟩:(i=0/\j=0)\/(i=0/\j=1)\/(i=1/\j=1):=by omega
  all_goals simp [JV,I8,VS,UP,DZ,gC,BC,DN,dz,List.range_succ]
  all_goals grind
 ·obtain ⟨rfl,rfl⟩|⟨rfl,rfl⟩|⟨rfl,rfl⟩|⟨rfl,rfl⟩|⟨rfl,rfl⟩|⟨rfl,rfl⟩:(i=0/\j=0)\/(i=0/\j=1)\/(i=0/\j=2)\/(i=1/\j=1)\/(i=1/\j=2)\/(i=2/\j=2):=by omega
  all_goals simp [JV,I8,VS,UP,DZ,gC,BC,DN,dz,List.range_succ]
  all_goals grind
def WR (M:List (List (Option Rat))) (i j:Nat) (x:Rat):List (List (Option Rat)):=(M.set i ((M.getD i []).set j (some x))).set j (((M.set i ((M.getD i []).set j (some x))).getD j []).set i (some x))
def O6 (X:List Rat) (n:Nat):Nat->List (List (Option Rat))
 | 0=>List.replicate n (List.replicate n none)
 | u+1=>WR (O6 X n u) ((BC n n).getD u (0,0)).1 ((BC n n).getD u (0,0)).2 (X.getD u 0)
theorem Ahv {n i j:Nat} {M:List (List (Option Rat))} {x:Rat} (h:M.length=n /\ ∀ r∈M,r.length=n) (hi:i<n) (hj:j<n):(WR M i j x).length=n /\ ∀ r∈WR M i j x,r.length=n:=by
 have hg : ∀ (M:List (List (Option Rat))) (i:Nat),M.length=n->(∀ r∈M,r.length=n)->i<n->(M.getD i []).length=n:=λ M i h1 h2 h3=>by
  rw[List.getD_eq_getElem?_getD,zE (by omega)];exact h2 _ (List.getElem_mem _)
 have h1:(M.set i ((M.getD i []).set j (some x))).length=n /\ ∀ r∈M.set i ((M.getD i []).set j (some x)),r.length=n:=⟨by rw[List.length_set,h.1],λ r hr=>by
  rcases List.mem_or_eq_of_mem_set hr with hr|rfl
  ·exact h.2 r hr
  ·rw[List.length_set,hg M i h.1 h.2 hi]⟩
 refine ⟨by rw[WR,List.length_set];exact h1.1,λ r hr => ?_⟩;rcases List.mem_or_eq_of_mem_set hr with hr|rfl
 ·exact h1.2 r hr
 ·rw[List.length_set,hg _ j h1.1 h1.2 hj]
theorem Ahs {X:List Rat} {n:Nat} (hn:n<=3) (h:X.length=(BC n n).length):O6 X n (BC n n).length=(kM X n).map (·.map some):=by
 rcases TN hn with rfl|rfl|rfl|rfl
 ·rfl
 ·match X,h with
  | [x0],_=>rfl
 ·match X,h with
  | [x0,x1,x2],_=>rfl
 ·match X,h with
  | [x0,x1,x2,x3,x4,x5],_=>rfl
end Go.c9

namespace Go.c9
open F
attribute [local irreducible] AA AF AP AD CI AY AW A6 A5 B2 AM BQ B8 C8 BM A1 BR B9 AB A7 AJ pw BO BH CH CK CS CP CD BT CJ
attribute [local irreducible] OU
variable {L:Lib}
set_option maxHeartbeats 16000000
set_option maxRecDepth 8000
abbrev VG (p:Nat × Nat):List AV:=[.int .i64 ((p.1:Nat):Int),.int .i64 ((p.2:Nat):Int)]
theorem Ad6 (l:List (Nat × Nat)):FP (l.map VG):=X6 (λ p=>by simp only[CG,A3,and_true]) l
theorem Ri {n i:Nat} (hi:i<n):(BC n (i+1)).length=(BC n i).length+(n-i):=by
 show (BC n i++DN i (n-i)).length=_;rw[List.length_append,YY]
theorem fX (n:Nat) {i:Nat} : ∀ d,(BC n i).length<=(BC n (i+d)).length
 | 0=>Nat.le_refl _
 | d+1=>by
  refine Nat.le_trans (fX n d) ?_;show _<=(BC n (i+d)++DN (i+d) (n-(i+d))).length;rw[List.length_append];omega
theorem vW (N:v7 L) (q1 q2 q3:Bool) (A:List (List Rat)) (b:List Rat) (n:Nat) (hA:A.length=n) (hn:n<=3):Ev L 321 [.agg [.sl q1 (CN q2 A),.sl q3 (b.map eQ)]] (.sl false ((BC n n).map VG)):=by
 have hlen:=fW hn;refine Ev.x N.QC rfl rfl ?_;(repeat' ((first|apply AR|apply AE)<;>conv=>whnf))
 refine BP (λ i=>n-i) (λ(i:Nat)=>i<=n) (λ i=>[(9,.int .i64 i),(3,.row 3 0 2 0 (BC n i).length)]) (λ i=>[(3,3,.rw 2 ((BC n i).map VG))]) [] [] 0 (by (conv=>whnf);exact ⟨rfl,rfl,rfl⟩) (by omega) ?_;intro i p1 ih;have Ml:=fX n (i:=i) (n-i);rw[show i+(n-i)=n by omega]at Ml;by_cases hi:i<n
 ·have hS:=Ri hi
  have Ct:=fX n (i:=i+1) (n-(i+1));rw[show i+1+(n-(i+1))=n by omega]at Ct;(repeat' ((first|(apply AG<;>intro hc<;>try (exfalso;omega))|apply AE)<;>conv=>whnf))
  refine BP (λ t=>n-i-t) (λ(t:Nat)=>t<=n-i) (λ t=>[(5,.int .i64 ((i+t:Nat):Int)),(3,.row 3 0 2 0 ((BC n i).length+t))]) (λ t=>[(3,3,.rw 2 ((BC n i++DN i t).map VG))]) [] [] 0 (by first|exact (by (conv=>whnf);exact ⟨rfl,rfl,rfl⟩)|(rw[show DN i 0=[] from rfl,List.append_nil];exact (by (conv=>whnf);exact ⟨rfl,rfl,rfl⟩))) (by omega) ?_;intro t p2 th;by_cases ht:t<n-i
  ·have Ej:=Rk i t
   have gk:(BC n i++DN i t).length=(BC n i).length+t:=by rw[List.length_append,YY]
   have Ai:BC n i++DN i (t+1)=(BC n i++DN i t)++[(i,i+t)]:=by rw[Ej,List.append_assoc]
   generalize BC n i++DN i t=R0 at *;(repeat' ((first|(apply AG<;>intro hc<;>try (exfalso;omega))|apply AR|apply DW|apply AE)<;>conv=>whnf))
   refine EO (enc:=VG) (i,i+t) rfl (by omega) rfl (by omega) (by omega) ?_;(conv=>whnf)
   rw[<-Ai,show (BC n i++DN i (t+1)).length=(BC n i).length+(t+1) by rw[List.length_append,YY]];(repeat' ((first|(apply AU;omega)|fail)<;>conv=>whnf))
   exact BG [(3,25)] (th (t+1) (by omega) (by omega))
  ·have et:t=n-i:=by omega
   clear th;have e1:BC n i++DN i t=BC n (i+1):=by rw[et];rfl
   have e2:(BC n i).length+t=(BC n (i+1)).length:=by rw[hS,et]
   rw[e1,e2];(repeat' ((first|(apply AG<;>intro hc<;>try (exfalso;omega))|(apply AU;omega)|apply AR|apply AE)<;>conv=>whnf))
   exact BG [] (ih (i+1) (by omega) (by omega))
 ·obtain rfl:i=n:=by omega
  clear ih;(repeat' ((first|(apply AG<;>intro hc<;>try (exfalso;omega))|(refine C9 (λ_=>rfl) rfl ?_ ?_;(first|rfl|simp))|apply AE)<;>conv=>whnf))
  exact AX rfl (by simp only[A3];exact ⟨trivial,Ad6 _⟩)
theorem Y4 {A:List (List Rat)} {n i:Nat} (hA:Sq n A) (hi:i<n) : ∃ r,A[i]? = some r/\r.length=n /\ ∀ j,j<n->r[j]? = some (A4 A i j):=by
 obtain ⟨r,hr⟩ : ∃ r,A[i]? = some r:=⟨_,zE (by rw[hA.l];exact hi)⟩;have hl:=hA.at hr;refine ⟨r,hr,hl,λ j hj => ?_⟩;rw[J5 hr,List.getD_eq_getElem?_getD,zE (by omega)];rfl
theorem OX {B:List Rat} {n i:Nat} (hB:B.length=n) (hi:i<n):B[i]? = some (bQ B i):=by
 rw[bQ,List.getD_eq_getElem?_getD,zE (by omega)];rfl
theorem fU {n u i j:Nat} (h:(BC n n)[u]? = some (i,j)):i<n/\j<n/\i<=j:=by
 have:=Rj (zM h)
 omega
theorem UY {α:Type} {l:List α} {i:Nat} {x:α} (h:l[i]? = some x):l.take (i+1)=l.take i++[x]:=by rw[List.take_add_one,h];rfl
theorem bY {a b c d:Nat} {K:Bool->Prop} (hk:K (decide ((a,b)=(c,d)))):OU 2 (VG (a,b)) (VG (c,d)) K:=by
 unfold OU;refine ⟨[(a:Int),(b:Int)],[(c:Int),(d:Int)],rfl,rfl,rfl,rfl,?_⟩;have:decide ([(a:Int),(b:Int)]=[(c:Int),(d:Int)])=decide ((a,b)=(c,d)):=by
  apply decide_eq_decide.2;simp
  omega
 rw[this];exact hk
theorem Agr (N:v7 L) (q1 q2 q3:Bool) (A:List (List Rat)) (B:List Rat) (n k p1 p2:Nat) (hA:Sq n A) (hB:B.length=n) (ke:Ms k A) (Aa:Bs k B) (hk:k<=1000000) (hn:n<=3) (h1:p1<n) (h2:p2<n) :
  Ev L 322 [.agg [.sl q1 (CN q2 A),.sl q3 (B.map eQ)],.agg (VG (p1,p2))] (.j5 [.sl false ((DZ A n (p1,p2)).map eQ),.agg (eQ (bQ B p1*bQ B p2))]):=by
 have hlen:=fW hn;have hP:=λ q1 q2 q3=>vW N q1 q2 q3 A B n hA.l hn
 obtain ⟨r1,ak,kj,nh⟩:=Y4 hA h1;obtain ⟨r2,bj,gk,px⟩:=Y4 hA h2;have Cy:A[((p1:Nat):Int).toNat]? = some r1:=ak;have Ni:A[((p2:Nat):Int).toNat]? = some r2:=bj;have yo:B[((p1:Nat):Int).toNat]? = some (bQ B p1):=OX hB h1;have Lh:B[((p2:Nat):Int).toNat]? = some (bQ B p2):=OX hB h2;have Km:=GD N.toa6 (Bs.at Aa (OX hB h1)) (Bs.at Aa (OX hB h2)) (by omega) (by omega);refine Ev.x N.QB rfl rfl ?_;(repeat' ((first|apply AR|apply AE|refine AC (hP _ _ _) ?_)<;>conv=>whnf))
 refine BP (λ u=>(BC n n).length-u) (λ(u:Nat)=>u<=(BC n n).length) (λ u=>[(13,.int .i64 u),(6,.row 6 0 3 0 u)]) (λ u=>[(6,6,.rw 3 (((DZ A n (p1,p2)).take u).map eQ))]) [] [] 0 (by (conv=>whnf);exact ⟨rfl,rfl,rfl⟩) (by omega) ?_;intro u u1 uh;have hgl:(DZ A n (p1,p2)).length=(BC n n).length:=by simp [DZ]
 by_cases hu:u<(BC n n).length
 ·obtain ⟨⟨i,j⟩,fj⟩ : ∃ p,(BC n n)[u]? = some p:=⟨_,zE hu⟩
  have Ge:(BC n n)[((u:Nat):Int).toNat]? = some (i,j):=fj;obtain ⟨g1,g2,g3⟩:=fU fj;have wc:(DZ A n (p1,p2))[u]? = some (gC A (p1,p2) (i,j)):=by rw[DZ,List.getElem?_map,fj];rfl
  have Ej:=UY wc;have bm:((DZ A n (p1,p2)).take u).length=u:=by rw[List.length_take];omega
  have a1:r1[((i:Nat):Int).toNat]? = some (A4 A p1 i):=nh i g1;have a2:r2[((j:Nat):Int).toNat]? = some (A4 A p2 j):=px j g2;have a3:r1[((j:Nat):Int).toNat]? = some (A4 A p1 j):=nh j g2;have a4:r2[((i:Nat):Int).toNat]? = some (A4 A p2 i):=px i g1;have b1:=E3 ke p1 i;have b2:=E3 ke p2 j;have b3:=E3 ke p1 j;have b4:=E3 ke p2 i;have m1:=GD N.toa6 b1 b2 (by omega) (by omega);have n1:=vS N.too8 (b1.mul b2) (by omega);have c1:=(b1.mul b2).Xa;have xo:gC A (p1,p2) (i,j)=if (i,j)=(p1,p2) then (if i=j then -(A4 A p1 i*A4 A p2 j) else -(A4 A p1 i*A4 A p2 j)-A4 A p1 j*A4 A p2 i)+1 else if i=j then -(A4 A p1 i*A4 A p2 j) else -(A4 A p1 i*A4 A p2 j)-A4 A p1 j*A4 A p2 i:=rfl
  generalize gC A (p1,p2) (i,j)=gc at *;generalize (DZ A n (p1,p2)).take u=R0 at *;have hO:=HS N.toa6 1 (by omega);by_cases hd:i=j
  ·rw[if_pos hd]at xo
   have ad:=O4 N.toa6 c1 (Bt.one 0) (by omega) (by omega);by_cases he:(i,j)=(p1,p2)
   ·have yv:decide ((i,j)=(p1,p2))=true:=decide_eq_true he
    rw[if_pos he]at xo;(repeat' ((first|(apply AG<;>intro hc<;>try (exfalso;omega))|(refine BA (by assumption) ?_ rfl ?_;omega)|apply AE|refine AC (m1) ?_|refine AC (n1) ?_)<;>conv=>whnf))
    ·refine bY ?_
     rw[yv];(conv=>whnf)
     (repeat' ((first|apply DW|refine AC (hO) ?_|refine AC (ad) ?_)<;>conv=>whnf))
     refine EO (enc:=eQ) _ rfl bm.symm rfl (by omega) (by omega) ?_;rw[<-xo,<-Ej,show ((DZ A n (p1,p2)).take (u+1)).length=u+1 by rw[List.length_take];omega];(conv=>whnf)
     (repeat' ((first|(apply AU;omega)|fail)<;>conv=>whnf))
     exact BG [(6,76)] (uh (u+1) (by omega) (by omega))
   ·have yv:decide ((i,j)=(p1,p2))=false:=decide_eq_false he
    rw[if_neg he]at xo;(repeat' ((first|(apply AG<;>intro hc<;>try (exfalso;omega))|(refine BA (by assumption) ?_ rfl ?_;omega)|apply AE|refine AC (m1) ?_|refine AC (n1) ?_)<;>conv=>whnf))
    ·refine bY ?_
     rw[yv];(conv=>whnf)
     (repeat' (apply DW<;>conv=>whnf))
     refine EO (enc:=eQ) _ rfl bm.symm rfl (by omega) (by omega) ?_;rw[<-xo,<-Ej,show ((DZ A n (p1,p2)).take (u+1)).length=u+1 by rw[List.length_take];omega];(conv=>whnf)
     (repeat' ((first|(apply AU;omega)|fail)<;>conv=>whnf))
     exact BG [(6,76)] (uh (u+1) (by omega) (by omega))
  ·rw[if_neg hd]at xo
   have m2:=GD N.toa6 b3 b4 (by omega) (by omega);have s2:=eB N.toy8 c1 (b3.mul b4) (by omega) (by omega);have ad:=O4 N.toa6 (c1.mr (b3.mul b4)) (Bt.one 0) (by omega) (by omega);by_cases he:(i,j)=(p1,p2)
   ·have yv:decide ((i,j)=(p1,p2))=true:=decide_eq_true he
    rw[if_pos he]at xo;(repeat' ((first|(apply AG<;>intro hc<;>try (exfalso;omega))|(refine BA (by assumption) ?_ rfl ?_;omega)|apply AE|refine AC (m1) ?_|refine AC (n1) ?_|refine AC (m2) ?_|refine AC (s2) ?_)<;>conv=>whnf))
    ·refine bY ?_
     rw[yv];(conv=>whnf)
     (repeat' ((first|apply DW|refine AC (hO) ?_|refine AC (ad) ?_)<;>conv=>whnf))
     refine EO (enc:=eQ) _ rfl bm.symm rfl (by omega) (by omega) ?_;rw[<-xo,<-Ej,show ((DZ A n (p1,p2)).take (u+1)).length=u+1 by rw[List.length_take];omega];(conv=>whnf)
     (repeat' ((first|(apply AU;omega)|fail)<;>conv=>whnf))
     exact BG [(6,76)] (uh (u+1) (by omega) (by omega))
   ·have yv:decide ((i,j)=(p1,p2))=false:=decide_eq_false he
    rw[if_neg he]at xo;(repeat' ((first|(apply AG<;>intro hc<;>try (exfalso;omega))|(refine BA (by assumption) ?_ rfl ?_;omega)|apply AE|refine AC (m1) ?_|refine AC (n1) ?_|refine AC (m2) ?_|refine AC (s2) ?_)<;>conv=>whnf))
    ·refine bY ?_
     rw[yv];(conv=>whnf)
     (repeat' (apply DW<;>conv=>whnf))
     refine EO (enc:=eQ) _ rfl bm.symm rfl (by omega) (by omega) ?_;rw[<-xo,<-Ej,show ((DZ A n (p1,p2)).take (u+1)).length=u+1 by rw[List.length_take];omega];(conv=>whnf)
     (repeat' ((first|(apply AU;omega)|fail)<;>conv=>whnf))
     exact BG [(6,76)] (uh (u+1) (by omega) (by omega))
 ·have eu:u=(BC n n).length:=by omega
  clear uh;rw[List.take_of_length_le (by omega)];(repeat' ((first|(apply AG<;>intro hc<;>try (exfalso;omega))|(refine BA (by assumption) ?_ rfl ?_;omega)|apply AE|refine AC (Km) ?_)<;>conv=>whnf))
  refine C9 (enc:=eQ) (λ_=>rfl) rfl (by omega) ?_;(conv=>whnf)
  refine AX rfl ?_;simp only[A3,CG,and_true,true_and];exact ⟨HO _,CM _,CM _⟩
end Go.c9

namespace Go.c9
open F
attribute [local irreducible] AA AF AP AD CI AY AW A6 A5 B2 AM BQ B8 C8 BM A1 BR B9 AB A7 AJ pw BO BH CH CK CS CP CD BT CJ
variable {L:Lib}
set_option maxHeartbeats 16000000
theorem AjS (x:Rat):qv false (dg x.num.natAbs) (dg x.den)=C3 x:=by
 unfold C3;split
 ·rename_i h
  have:=EM (-x)
  rw[Rat.neg_num,Int.natAbs_neg,Rat.neg_den,show decide (-x.num<0)=false from decide_eq_false (by omega)]at this;exact this
 ·rename_i h
  have:=EM x
  rw[show decide (x.num<0)=false from decide_eq_false h]at this;exact this
theorem Af7 (N:di L) {x:Rat} {k:Nat} (hx:Bt k x) (hk:k<2199023255552):Ev L 256 [.agg (eQ x)] (.agg (eQ (C3 x))):=by
 have hs:=hx.sm hk;have hT:=lI N.toa6 false false false (dg x.num.natAbs) (dg x.den) (hs.1.le (by omega)) (hs.2.le (by omega));rw[AjS]at hT;refine Ev.x N.QU rfl rfl ?_;(repeat' ((first|apply AE|refine AC (hT) ?_)<;>conv=>whnf))
 exact AX rfl (DI _)
theorem AfT (z:Int):eQ (z:Rat)=[.bool (decide (z<0)),.sl false ((dg z.natAbs).map AL),.sl false [[.int .u32 1]]]:=by
 simp only[eQ,rQ,Rat.num_intCast,Rat.den_intCast,kC];rfl
end Go.c9



namespace Go.c9
end Go.c9

namespace Go.c9
open F
attribute [local irreducible] AA AF AP AD CI AY AW A6 A5 B2 AM BQ B8 C8 BM A1 BR B9 AB A7 AJ pw BO BH CH CK CS CP CD BT CJ
variable {L:Lib}
set_option maxHeartbeats 16000000
set_option maxRecDepth 8000
theorem zJ {T:List (List Rat)} {n i:Nat} (hl:T.length=n) (hi:i<n):(mz T n i)[i]? = some none:=by
 have gk:(BK 3 eQ (T.take i)).length=i:=by simp only[BK,List.length_map,List.length_take];omega
 have:=AhA (z:=(none:Option (Nat × List (List AV)))) (l:=BK 3 eQ (T.take i)) (m:=n) (by omega)
 rw[gk]at this;exact this
theorem jY {k:Nat} {x:Rat} (h:Bt k x):Bt k ((x.den:Nat):Rat):=by
 refine ⟨?_,?_⟩
 ·rw[Rat.num_natCast,Int.natAbs_natCast];exact h.2
 ·rw[Rat.den_natCast];exact Nat.one_le_two_pow
theorem AeM (x:Rat):((x.den:Nat):Rat)≠0:=λ e=>by
 have:((x.den:Nat):Rat)=((0:Nat):Rat):=e
 have:=Rat.natCast_inj.1 this
 have:=x.den_pos
 omega
theorem vU (N:w3 L) {x:Rat} {k:Nat} (hx:Bt k x) (hk:k<2199023255552):Ev L 294 [.agg (eQ x)] (.agg (eQ ((x.den:Nat):Rat))):=by
 have hT:=eE N.toa6 hx hk;have n7:=DI ((x.den:Nat):Rat);have e:eQ ((x.den:Nat):Rat)=[.bool false,.sl false ((dg x.den).map AL),.sl false [[.int .u32 1]]]:=by
  rw[<-Rat.intCast_natCast,AfT,Int.natAbs_natCast,show decide (((x.den:Nat):Int)<0)=false by simp]
 rw[e]at n7 ⊢;refine Ev.x N.QL rfl rfl ?_;(repeat' ((first|refine JQ rfl ?_|apply AE|refine AC (hT) ?_)<;>conv=>whnf))
 exact AX rfl n7
theorem AgK (N:w3 L) (q q':Bool) (ls:List (List Rat)) (k:Nat) (hb:Ms k ls) (hl:ls.flatten.length<=64) (xq:ls.length<=1000) (hk:k<=1000000):Ev L 295 [.sl q (CN q' ls)] (.agg (eQ (C1 ls.flatten))):=by
 have hO:=HS N.toa6 1 (by omega);rw[show ((1:Int):Rat)=1 from rfl]at hO;have key : ∀ (i j:Nat) (r:List Rat) (x:Rat),ls[i]? = some r->r[j]? = some x -> ∃ S:Nat,C1 ((ls.take i).flatten++r.take j)=(S:Rat)/\Bt (64*k) (S:Rat)/\C1 ((ls.take i).flatten++r.take (j+1))=(S:Rat)*(((S:Rat)/((x.den:Nat):Rat)).den:Nat):=by
  intro i j r x hr hx;have cp:=(zS hx).1;have hlen:((ls.take i).flatten++r.take j).length<=64:=by
   have e:ls.flatten=(ls.take i).flatten++(r++(ls.drop (i+1)).flatten):=by
    have h1:=(zS hr);obtain ⟨h1,h2⟩:=h1;conv=>lhs;rw[<-List.take_append_drop i ls,List.flatten_append,List.drop_eq_getElem_cons h1,h2,List.flatten_cons]
   rw[e,List.length_append,List.length_append]at hl;rw[List.length_append,List.length_take];omega
  have yp:Bs k ((ls.take i).flatten++r.take j):=λ y hy=>by
   rcases List.mem_append.1 hy with hy|hy
   ·obtain ⟨s,hs,hy⟩:=List.mem_flatten.1 hy
    exact hb s (List.mem_of_mem_take hs) y hy
   ·exact hb r (zM hr) y (List.mem_of_mem_take hy)
  obtain ⟨S,e,h1,h2,_⟩:=oK yp;refine ⟨S,e,⟨?_,?_⟩,?_⟩
  ·rw[Rat.num_natCast,Int.natAbs_natCast]
   exact Nat.le_trans h2 (Nat.pow_le_pow_right (by omega) (Nat.mul_le_mul_right k hlen))
  ·rw[Rat.den_natCast];exact Nat.one_le_two_pow
  ·rw[List.take_add_one,hx,Option.toList_some,<-List.append_assoc,Qm,e,TJ,AeO]
 refine Ev.x N.QJ rfl rfl ?_;(repeat' ((first|apply AR|apply AE|refine AC (hO) ?_)<;>conv=>whnf))
 refine BP (λ i=>ls.length-i) (λ(i:Nat)=>i<=ls.length) (λ i=>[(13,.int .i64 i)]) (λ i=>[(3,3,.bx (eQ (C1 (ls.take i).flatten)))]) [] [] 0 (by rw[show C1 (ls.take 0).flatten=1 from rfl];exact (by (conv=>whnf);exact ⟨rfl,rfl,rfl⟩)) (by omega) ?_;intro i p1 ih;by_cases hi:i<ls.length
 ·obtain ⟨r,hr⟩ : ∃ r,ls[i]? = some r:=⟨_,zE hi⟩
  have ig:ls[(i:Int).toNat]? = some r:=hr;have jd:=hb r (zM hr);have ax:r.length<=64:=by
   have e:ls.flatten=(ls.take i).flatten++(r++(ls.drop (i+1)).flatten):=by
    obtain ⟨h1,h2⟩:=zS hr;conv=>lhs;rw[<-List.take_append_drop i ls,List.flatten_append,List.drop_eq_getElem_cons h1,h2,List.flatten_cons]
   rw[e,List.length_append,List.length_append]at hl;omega
  have eg:(ls.take (i+1)).flatten=(ls.take i).flatten++r:=by
   rw[List.take_add_one,hr,List.flatten_append];simp
  (repeat' ((first|(apply AG<;>intro hc<;>try (exfalso;omega))|apply AR|(refine BA (by assumption) ?_ rfl ?_;omega)|apply AE)<;>conv=>whnf))
  refine BP (λ j=>r.length-j) (λ(j:Nat)=>j<=r.length) (λ j=>[(19,.int .i64 j)]) (λ j=>[(3,3,.bx (eQ (C1 ((ls.take i).flatten++r.take j))))]) [] [] 0 (by rw[List.take_zero,List.append_nil];exact (by (conv=>whnf);exact ⟨rfl,rfl,rfl⟩)) (by omega) ?_;intro j r1 jh;by_cases hj:j<r.length
  ·obtain ⟨x,hx⟩ : ∃ x,r[j]? = some x:=⟨_,zE hj⟩
   have fb:r[(j:Int).toNat]? = some x:=hx;obtain ⟨S,e,hS,e2⟩:=key i j r x hr hx;have Jm:=jd.at hx;have sj:=vU N Jm (by omega);have hq:=hS.uy (jY Jm);have hDv:=dY N.toa6 hS (jY Jm) (by omega) (by omega) (AeM x);have sn:=vU N hq (by omega);have hM:=GD N.toa6 hS (jY hq) (by omega) (by omega);rw[<-e2]at hM;rw[e];generalize (S:Rat)/((x.den:Nat):Rat)=y at *;generalize ((x.den:Nat):Rat)=d at *;generalize (S:Rat)=s at *;generalize ((y.den:Nat):Rat)=d2 at *;(repeat' ((first|(apply AG<;>intro hc<;>try (exfalso;omega))|(apply AU;omega)|(refine BA (by assumption) ?_ rfl ?_;omega)|apply AE|refine AC (sj) ?_|refine AC (hDv) ?_|refine AC (sn) ?_|refine AC (hM) ?_)<;>conv=>whnf))
   exact BG [] (jh (j+1) (by omega) (by omega))
  obtain rfl:j=r.length:=by omega
  clear jh;rw[List.take_of_length_le (Nat.le_refl _),<-eg];(repeat' ((first|(apply AG<;>intro hc<;>try (exfalso;omega))|(apply AU;omega)|apply AE)<;>conv=>whnf))
  exact BG [] (ih (i+1) (by omega) (by omega))
 obtain rfl:i=ls.length:=by omega
 clear ih;rw[List.take_of_length_le (Nat.le_refl _)];(repeat' ((first|(apply AG<;>intro hc<;>try (exfalso;omega))|apply AE)<;>conv=>whnf))
 exact AX rfl (DI _)
theorem AgR (N:w3 L) (q:Bool) (v:List Rat) (c:Rat) (k l:Nat) (hv:Bs k v) (hc:Bt l c) (hk:k<1099511627776) (hl:l<1099511627776) (hn:v.length<=1000000):Ev L 296 [.sl q (v.map eQ),.agg (eQ c)] (.sl false ((v.map (· * c)).map eQ)):=by
 refine Ev.x N.QP rfl rfl ?_;(repeat' ((first|apply AR|apply AE)<;>conv=>whnf))
 refine EJ (enc:=eO) none v.length rfl rfl (by omega) ?_;(conv=>whnf)
 (repeat' (apply AR<;>conv=>whnf))
 refine BP (λ i=>v.length-i) (λ(i:Nat)=>i<=v.length) (λ i=>[(12,.int .i64 i)]) (λ i=>[(9,9,.rw 3 ((ED ((v.map (· * c)).take i) v.length).map eO))]) [] [] 0 (by first|exact (by (conv=>whnf);exact ⟨rfl,rfl,rfl⟩)|(rw[List.take_zero,<-OG];exact (by (conv=>whnf);exact ⟨rfl,rfl,rfl⟩))) (by omega) ?_;intro i p1 ih;have bm:((v.map (· * c)).take i).length=i:=by rw[List.length_take,List.length_map];omega
 have Ja:=J9 (l:=(v.map (· * c)).take i) (m:=v.length) (by omega);by_cases hi:i<v.length
 ·obtain ⟨x,hx⟩ : ∃ x,v[i]? = some x:=⟨_,zE hi⟩
  have fb:v[(i:Int).toNat]? = some x:=hx;have hy:(v.map (· * c))[i]? = some (x*c):=by rw[List.getElem?_map,hx];rfl
  have hs:=OH (l:=(v.map (· * c)).take i) (m:=v.length) (x:=x*c) (by omega);rw[bm,<-JZ hy]at hs;have hM:=GD N.toa6 (hv.at hx) hc (by omega) (by omega);generalize ED ((v.map (· * c)).take i) v.length=F0 at *;generalize x*c=y at *;(repeat' ((first|(apply AG<;>intro hc<;>try (exfalso;omega))|(apply AZ;omega)|(refine BA (by assumption) ?_ rfl ?_;omega)|apply AE|refine AC (hM) ?_)<;>conv=>whnf))
  refine FF (enc:=eO) (some y) rfl (λ e=>by cases e<;>rfl) (by omega) ?_;(conv=>whnf)
  rw[hs];(repeat' ((first|(apply AU;omega)|fail)<;>conv=>whnf))
  exact BG [] (ih (i+1) (by omega) (by omega))
 obtain rfl:i=v.length:=by omega
 clear ih;have dk:(v.map (· * c)).length=v.length:=List.length_map _;rw[List.take_of_length_le (by omega),OE dk];(repeat' ((first|(apply AG<;>intro hc<;>try (exfalso;omega))|(refine C9 (λ_=>rfl) rfl ?_ ?_;(first|rfl|simp))|apply AE)<;>conv=>whnf))
 exact AX rfl (by simp only[A3,true_and];exact HO _)
abbrev kQ (q:Bool) (x:Rat):List AV:=rQ q q (decide (x.num<0)) (dg x.num.natAbs) (dg x.den)
theorem Ahl (N:a6 L) (q:Bool) {x:Rat} {k:Nat} (hx:Bt k x) (hk:k<2199023255552):Ev L 97 [.agg (kQ q x)] (.int .i64 (q6 x.num)):=by
 have hs:=hx.sm hk;have:=wF N (decide (x.num<0)) q q (dg x.num.natAbs) (dg x.den) (hs.1.le (by omega)) (hs.2.le (by omega))
 rwa [EM]at this
theorem AgC (N:a6 L) (q:Bool) {x y:Rat} {k l:Nat} (hx:Bt k x) (hy:Bt l y) (hk:k<2199023255552) (hl:l<2199023255552):Ev L 99 [.agg (eQ x),.agg (kQ q y)] (.agg (eQ (x*y))):=by
 have h1:=hx.sm hk;have h2:=hy.sm hl;have:=lH N 68719476736 (by omega) (decide (x.num<0)) (decide (y.num<0)) false false q q (dg x.num.natAbs) (dg x.den) (dg y.num.natAbs) (dg y.den) h1.1 h1.2 h2.1 h2.2
 rwa [EM,EM]at this
theorem AgN (N:w3 L) (q1 q2 qb:Bool) (a b:List Rat) (k l:Nat) (hl:a.length=b.length) (ha:Bs k a) (hb:Bs l b) (hn:a.length<=64) (hk:k<=1000000000) (ia:l<=1000000000):Ev L 297 [.sl q1 (a.map eQ),.sl q2 (b.map (kQ qb))] (.agg (eQ (A0 a b))):=by
 have hO:=HS N.toa6 0 (by omega);rw[show ((0:Int):Rat)=0 from rfl]at hO;refine Ev.x N.QM rfl rfl ?_;(repeat' ((first|apply AR|apply AE|refine AC (hO) ?_)<;>conv=>whnf))
 refine BP (λ i=>a.length-i) (λ(i:Nat)=>i<=a.length) (λ i=>[(10,.int .i64 i)]) (λ i=>[(5,5,.bx (eQ (A0 (a.take i) (b.take i))))]) [] [] 0 (by rw[show A0 (a.take 0) (b.take 0)=0 from rfl];exact (by (conv=>whnf);exact ⟨rfl,rfl,rfl⟩)) (by omega) ?_;intro i p1 ih;by_cases hi:i<a.length
 ·obtain ⟨x,hx⟩ : ∃ x,a[i]? = some x:=⟨_,zE hi⟩
  obtain ⟨y,hy⟩ : ∃ y,b[i]? = some y:=⟨_,zE (by omega)⟩;have fb:a[(i:Int).toNat]? = some x:=hx;have uo:b[(i:Int).toNat]? = some y:=hy;have rh:=WP N.toa6 (ha.at hx) (by omega);have sv:=Ahl N.toa6 qb (hb.at hy) (by omega);have hM:=AgC N.toa6 qb (ha.at hx) (hb.at hy) (by omega) (by omega);have hd:Bt (64*(k+l+1)) (A0 (a.take i) (b.take i)):=by
   refine ((ha.take i).dot (hb.take i)).le (Nat.mul_le_mul_right _ ?_);rw[List.length_take];omega
  have hA:=O4 N.toa6 hd ((ha.at hx).mul (hb.at hy)) (by omega) (by omega);rw[<-WI hx hy]at hA;have hz:x=0\/y=0->A0 (a.take i) (b.take i)=A0 (a.take (i+1)) (b.take (i+1)):=λ h=>by
   rw[WI hx hy];rcases h with h|h<;>rw[h]<;>grind
  by_cases h1:x=0
  ·have s1:q6 x.num=0:=TK.2 h1
   rw[s1]at rh;rw[hz (Or.inl h1)];clear hA hz hd;(repeat' ((first|(apply AG<;>intro hc<;>try (exfalso;omega))|(apply AU;omega)|(refine BA (by assumption) ?_ rfl ?_;omega)|apply AE|refine AC (rh) ?_)<;>conv=>whnf))
   exact BG [] (ih (i+1) (by omega) (by omega))
  ·have s1:q6 x.num≠0:=λ h=>h1 (TK.1 h)
   generalize q6 x.num=g1 at *;by_cases h2:y=0
   ·have s2:q6 y.num=0:=TK.2 h2
    rw[s2]at sv;rw[hz (Or.inr h2)];clear hA hz hd;(repeat' ((first|(apply AG<;>intro hc<;>try (exfalso;omega))|(apply AU;omega)|(refine BA (by assumption) ?_ rfl ?_;omega)|apply AE|refine AC (rh) ?_|refine AC (sv) ?_)<;>conv=>whnf))
    exact BG [] (ih (i+1) (by omega) (by omega))
   ·have s2:q6 y.num≠0:=λ h=>h2 (TK.1 h)
    generalize q6 y.num=g2 at *;clear hz hd;generalize A0 (a.take i) (b.take i)=w at *;generalize x*y=p at *;(repeat' ((first|(apply AG<;>intro hc<;>try (exfalso;omega))|(apply AU;omega)|(refine BA (by assumption) ?_ rfl ?_;omega)|apply AE|refine AC (rh) ?_|refine AC (sv) ?_|refine AC (hM) ?_|refine AC (hA) ?_)<;>conv=>whnf))
    exact BG [] (ih (i+1) (by omega) (by omega))
 obtain rfl:i=a.length:=by omega
 clear ih;rw[VC rfl];(repeat' ((first|(apply AG<;>intro hc<;>try (exfalso;omega))|apply AE)<;>conv=>whnf))
 exact AX rfl (DI _)
theorem AgM (N:w3 L) (q1 q2:Bool) (a b:List Rat) (k l:Nat) (hl:a.length=b.length) (ha:Bs k a) (hb:Bs l b) (hn:a.length<=64) (hk:k<=1000000000) (ia:l<=1000000000):Ev L 297 [.sl q1 (a.map eQ),.sl q2 (b.map eQ)] (.agg (eQ (A0 a b))):=AgN N q1 q2 false a b k l hl ha hb hn hk ia
end Go.c9



namespace Go.c9
open F
attribute [local irreducible] AA AF AP AD CI AY AW A6 A5 B2 AM BQ B8 C8 BM A1 BR B9 AB A7 AJ pw BO BH CH CK CS CP CD BT CJ
variable {L:Lib} (n:Nt)
set_option maxHeartbeats 1000000
end Go.c9



namespace Go.c9
open F
attribute [local irreducible] AA AF AP AD CI AY AW A6 A5 B2 AM BQ B8 C8 BM A1 BR B9 AB A7 AJ pw BO BH CH CK CS CP CD BT CJ
variable {L:Lib}
set_option maxHeartbeats 1000000
end Go.c9



namespace Go.c9
open F
attribute [local irreducible] AA AF AP AD CI AY AW A6 A5 B2 AM BQ B8 C8 BM A1 BR B9 AB A7 AJ pw BO BH CH CK CS CP CD BT CJ
variable {L:Lib}
set_option maxHeartbeats 4000000
end Go.c9

namespace Go.c9
open F
attribute [local irreducible] AA AF AP AD CI AY AW A6 A5 B2 AM BQ B8 C8 BM A1 BR B9 AB A7 AJ pw BO BH CH CK CS CP CD BT CJ
variable {L:Lib}
variable (b a:List Int) (d c:Wd)
variable {b a d c}
set_option maxHeartbeats 4000000
end Go.c9

namespace Go.c9
open F
attribute [local irreducible] AA AF AP AD CI AY AW A6 A5 B2 AM BQ B8 C8 BM A1 BR B9 AB A7 AJ pw BO BH CH CK CS CP CD BT CJ
variable {L:Lib}
set_option maxHeartbeats 8000000
end Go.c9

namespace Go.c9
open F
attribute [local irreducible] AA AF AP AD CI AY AW A6 A5 B2 AM BQ B8 C8 BM A1 BR B9 AB A7 AJ pw BO BH CH CK CS CP CD BT CJ
attribute [local irreducible] OU
variable {L:Lib}
set_option maxHeartbeats 8000000
end Go.c9

namespace Go.c9
open F
attribute [local irreducible] AA AF AP AD CI AY AW A6 A5 B2 AM BQ B8 C8 BM A1 BR B9 AB A7 AJ pw BO BH CH CK CS CP CD BT CJ
variable {L:Lib}
set_option maxHeartbeats 16000000
set_option maxRecDepth 8000
theorem Qs {l:List Rat} {i:Nat} {x:Rat} (h:l[i]? = some x):BL (l.take (i+1))=BL (l.take i)+C3 x:=by rw[JZ h,Qr]
theorem AgS (N:w3 L) (q:Bool) (v:List Rat) (k:Nat) (hv:Bs k v) (hn:v.length<=1000) (hk:k<=1000000000):Ev L 300 [.sl q (v.map eQ)] (.agg (eQ (BL v))):=by
 have hO:=HS N.toa6 0 (by omega);rw[show ((0:Int):Rat)=0 from rfl]at hO;refine Ev.x N.QQ rfl rfl ?_;(repeat' ((first|apply AR|apply AE|refine AC (hO) ?_)<;>conv=>whnf))
 refine BP (λ i=>v.length-i) (λ(i:Nat)=>i<=v.length) (λ i=>[(9,.int .i64 i)]) (λ i=>[(3,3,.bx (eQ (BL (v.take i))))]) [] [] 0 (by rw[show BL (v.take 0)=0 from rfl];exact (by (conv=>whnf);exact ⟨rfl,rfl,rfl⟩)) (by omega) ?_;intro i p1 ih;by_cases hi:i<v.length
 ·obtain ⟨x,hx⟩ : ∃ x,v[i]? = some x:=⟨_,zE hi⟩
  have fb:v[(i:Int).toNat]? = some x:=hx;have hA:=Af7 N.todi (hv.at hx) (by omega);have hz:Bt (1000*(k+1)) (BL (v.take i)):=(bK (hv.take i)).le (Nat.mul_le_mul_right _ (by rw[List.length_take];omega));have hP:=O4 N.toa6 hz (rO (hv.at hx)) (by omega) (by omega);rw[<-Qs hx]at hP;generalize BL (v.take i)=w at *;generalize C3 x=y at *;(repeat' ((first|(apply AG<;>intro hc<;>try (exfalso;omega))|(apply AU;omega)|(refine BA (by assumption) ?_ rfl ?_;omega)|apply AE|refine AC (hA) ?_|refine AC (hP) ?_)<;>conv=>whnf))
  exact BG [] (ih (i+1) (by omega) (by omega))
 obtain rfl:i=v.length:=by omega
 clear ih;rw[List.take_of_length_le (Nat.le_refl _)];(repeat' ((first|(apply AG<;>intro hc<;>try (exfalso;omega))|apply AE)<;>conv=>whnf))
 exact AX rfl (DI _)
theorem gN {x y:Rat}:0<q6 (x-y).num↔y<x:=by
 have h:=oM (x-y).num;have e1:(x-y).num<0↔x<y:=by rw[nE];constructor<;>intro h<;>grind
 have e2:(x-y).num=0↔x=y:=by rw[Rat.num_eq_zero];constructor<;>intro h<;>grind
 rcases h with ⟨h1,h2⟩|⟨h1,h2⟩|⟨h1,h2⟩
 ·have:=e1.1 h2
  rw[h1];constructor
  ·intro h;omega
  ·intro h;grind
 ·have:=e2.1 h2
  rw[h1];constructor
  ·intro h;omega
  ·intro h;grind
 ·have h3 : ¬ x<y:=λ h=>by have:=e1.2 h;omega
  have h4 : ¬ x=y:=λ h=>by have:=e2.2 h;omega
  rw[h1];constructor
  ·intro _;grind
  ·intro _;omega
theorem AgL (N:w3 L) (q q':Bool) (a:List (List Rat)) (D:Rat) (n k l:Nat) (hs:Sq n a) (ha:Ms k a) (hD:Bt l D) (hn:n<=16) (hk:k<=1000000000) (hl:l<=1000000000):Ev L 302 [.sl q (CN q' a),.agg (eQ D)] (.bool (decide (∀ r∈a,BL r+BL r<=D))):=by
 have ag:=hs.l;refine Ev.x N.QK rfl rfl ?_;(repeat' ((first|apply AR|apply AE)<;>conv=>whnf))
 refine BP (λ i=>n-i) (λ(i:Nat)=>i<=n /\ ∀ r∈a.take i,BL r+BL r<=D) (λ i=>[(10,.int .i64 i)]) (λ_=>[]) [] [] 0 (by (conv=>whnf);exact ⟨rfl,rfl,rfl⟩) ⟨by omega,λ r hr=>by cases hr⟩ ?_;intro i ⟨p1,p2⟩ ih;by_cases hi:i<n
 ·obtain ⟨r,hr⟩ : ∃ r,a[i]? = some r:=⟨_,zE (by omega)⟩
  have ig:a[(i:Int).toNat]? = some r:=hr;have ax:=hs.at hr;have hT:=λ q=>AgS N q r k (ha.at hr) (by omega) hk
  have hz:Bt (16*(k+1)) (BL r):=(bK (ha.at hr)).le (Nat.mul_le_mul_right _ (by omega));have hP:=O4 N.toa6 hz hz (by omega) (by omega);have hC:=vH N.too8 (hz.add hz) hD (by omega) (by omega);have hg:=gN (x:=BL r+BL r) (y:=D);by_cases h:D<BL r+BL r
  ·have Ec : ¬ ∀ r∈a,BL r+BL r<=D:=λ e=>by
    have:=e r (zM hr)
    grind
   have:=hg.2 h
   rw[decide_eq_false Ec];clear Ec p2 ih hz h hg;generalize q6 (BL r+BL r-D).num=g at *;generalize BL r+BL r=w at *;generalize BL r=z at *;(repeat' ((first|(apply AG<;>intro hc<;>try (exfalso;omega))|(refine BA (by assumption) ?_ rfl ?_;omega)|apply AE|refine AC (hT _) ?_|refine AC (hP) ?_|refine AC (hC) ?_)<;>conv=>whnf))
   exact IJ rfl
  ·have Ot : ∀ r∈a.take (i+1),BL r+BL r<=D:=λ s hs=>by
    rw[JZ hr]at hs;rcases List.mem_append.1 hs with hs|hs
    ·exact p2 s hs
    ·obtain rfl:=List.mem_singleton.1 hs
     grind
   have : ¬ 0<q6 (BL r+BL r-D).num:=λ e=>h (hg.1 e)
   clear p2 hz h hg;generalize q6 (BL r+BL r-D).num=g at *;generalize BL r+BL r=w at *;generalize BL r=z at *;(repeat' ((first|(apply AG<;>intro hc<;>try (exfalso;omega))|(apply AU;omega)|(refine BA (by assumption) ?_ rfl ?_;omega)|apply AE|refine AC (hT _) ?_|refine AC (hP) ?_|refine AC (hC) ?_)<;>conv=>whnf))
   exact BG [] (ih (i+1) (by omega) ⟨by omega,Ot⟩)
 obtain rfl:i=n:=by omega
 clear ih;rw[List.take_of_length_le (by omega)]at p2;rw[decide_eq_true p2];(repeat' ((first|(apply AG<;>intro hc<;>try (exfalso;omega))|apply AE)<;>conv=>whnf))
 exact IJ rfl
theorem yV {α:Type} {a b:List α} {j:Nat} {y:α} (hl:a.length=b.length) (hy:a[j]? = some y):(a.take j++b.drop j).set j y=a.take (j+1)++b.drop (j+1):=by
 have h:=(zS hy).1;rw[List.set_append_right _ _ (by rw[List.length_take];omega),List.length_take,Nat.min_eq_left (by omega),Nat.sub_self,List.drop_eq_getElem_cons (by omega),List.set_cons_zero,List.take_add_one,hy,Option.toList_some,List.append_assoc];rfl
def HP (Q:List (List Rat)) (n j:Nat):List (Option (Nat × List (List AV))):=Q.map λ r=>some (3,(ED (r.take j) n).map eO)
def N7 (Q:List (List Rat)) (n j m:Nat):List (Option (Nat × List (List AV))):=(HP Q n (j+1)).take m++(HP Q n j).drop m
theorem T7 (Q:List (List Rat)) (n j:Nat):(HP Q n j).length=Q.length:=by simp [HP]
theorem Aen (Q:List (List Rat)) (n j:Nat):N7 Q n j 0=HP Q n j:=by simp [N7]
theorem Aek (Q:List (List Rat)) (n j:Nat):N7 Q n j Q.length=HP Q n (j+1):=by
 rw[N7,List.take_of_length_le (by rw[T7];exact Nat.le_refl _),List.drop_of_length_le (by rw[T7];exact Nat.le_refl _),List.append_nil]
theorem Ael {Q:List (List Rat)} {n j m:Nat} (h:m<=Q.length):(N7 Q n j m).length=Q.length:=by
 rw[N7,List.length_append,List.length_take,List.length_drop,T7,T7];omega
theorem Aej {Q:List (List Rat)} {n j m:Nat} {r:List Rat} (hr:Q[m]? = some r):(N7 Q n j m)[m]? = some (some (3,(ED (r.take j) n).map eO)):=by
 have h:=(zS hr).1;rw[N7,List.getElem?_append_right (by rw[List.length_take,T7];omega),List.length_take,T7,Nat.min_eq_left (by omega),Nat.sub_self,List.getElem?_drop,Nat.add_zero,HP,List.getElem?_map,hr];rfl
theorem Aem {Q:List (List Rat)} {n j m:Nat} {r:List Rat} (hr:Q[m]? = some r):(N7 Q n j m).set m (some (3,(ED (r.take (j+1)) n).map eO))=N7 Q n j (m+1):=by
 have h:=(zS hr).1;exact yV (by rw[T7,T7]) (by rw[HP,List.getElem?_map,hr];rfl)
end Go.c9
