/-
  Transfer functions of systems, plain: the numerator is the product of the denominator and the impulse response.
-/
import Derived.Test.YtoibhhbngpdcaaaB10
set_option linter.unusedSimpArgs false
set_option linter.unusedVariables false
set_option linter.unnecessarySimpa false
namespace Go.Eng
theorem dotQ_comm : ∀ a b:List Rat,dotQ a b=dotQ b a
 | [],[]=>rfl
 | [],_::_=>rfl
 | _::_,[]=>rfl
 | x::a,y::b=>by simp only[dotQ,dotQ_comm a b,Rat.mul_comm]
theorem dotQ_zeros : ∀ (v:List Rat) (n:Nat),dotQ (List.replicate n 0) v=0
 | [],n=>dotQ_nil _
 | y::v,0=>rfl
 | y::v,n+1=>by rw[List.replicate_succ];simp only[dotQ,dotQ_zeros v n];grind
theorem dotQ_zerosR (v:List Rat) (n:Nat):dotQ v (List.replicate n 0)=0:=by rw[dotQ_comm,dotQ_zeros]
theorem dotQ_sml (x:Rat) : ∀ a b:List Rat,dotQ (a.map (x * ·)) b=x*dotQ a b
 | [],_=>by simp [dotQ]
 | _::_,[]=>by simp [dotQ]
 | p::a,q::b=>by simp only[List.map_cons,dotQ,dotQ_sml x a b];grind
theorem mulRow_nil (u:List Rat) (n:Nat):mulRow u [] n=List.replicate n 0:=by
 refine List.ext_getElem? fun j => ?_
 simp only[mulRow,colQ,List.map_nil,dotQ_nil,List.getElem?_map,List.getElem?_replicate]
 by_cases h:j<n
 ·rw[List.getElem?_range h,if_pos h];rfl
 ·rw[List.getElem?_eq_none (by simp;omega),if_neg h];rfl
theorem mulRow_nil' (m:List (List Rat)) (n:Nat):mulRow [] m n=List.replicate n 0:=by
 refine List.ext_getElem? fun j => ?_
 simp only[mulRow,dotQ,List.getElem?_map,List.getElem?_replicate]
 by_cases h:j<n
 ·rw[List.getElem?_range h,if_pos h];rfl
 ·rw[List.getElem?_eq_none (by simp;omega),if_neg h];rfl
theorem mulRow_cons (x:Rat) (u r:List Rat) (m:List (List Rat)) (n:Nat) (hr:r.length=n):mulRow (x::u) (r::m) n=addL (r.map (x * ·)) (mulRow u m n):=by
 refine List.ext_getElem? fun j => ?_
 simp only[mulRow,addL,List.getElem?_map,List.getElem?_zipWith]
 by_cases h:j<n
 ·rw[List.getElem?_range h]
  obtain ⟨y,hy⟩ : ∃ y,r[j]? = some y:=⟨_,List.getElem?_eq_getElem (by omega)⟩
  rw[hy]
  simp only[Option.map_some,colQ,List.map_cons,dotQ,List.getD_eq_getElem?_getD,hy,Option.getD_some]
 ·rw[List.getElem?_eq_none (by simp;omega),List.getElem?_eq_none (l:=r) (by omega)]
  rfl
theorem dotQ_assoc {n:Nat} {v:List Rat} : ∀ (m:List (List Rat)) (u:List Rat),(∀ r∈m,r.length=n)→dotQ (mulRow u m n) v=dotQ u (mvQ m v)
 | [],u,_=>by rw[mulRow_nil,dotQ_zeros,mvQ,List.map_nil,dotQ_nil]
 | r::m,[],_=>by rw[mulRow_nil',dotQ_zeros];rfl
 | r::m,x::u,h=>by
  have hr:=h r (by simp)
  rw[mulRow_cons x u r m n hr,dotQ_comm,dotQ_add (by rw[List.length_map,mulRow_len];exact hr),dotQ_comm v,dotQ_comm v,dotQ_sml,dotQ_assoc m u fun r hr=>h r (by simp [hr])]
  rfl
theorem mvQ_mul {n:Nat} (a m:List (List Rat)) (v:List Rat) (h : ∀ r∈m,r.length=n):mvQ (mulQ a m n) v=mvQ a (mvQ m v):=by
 simp only[mvQ,mulQ,List.map_map]
 exact List.map_congr_left fun r _=>dotQ_assoc m r h
theorem mvQ_id {n:Nat} {b:List Rat} (hb:b.length=n):mvQ (idQ n) b=b:=by
 have unit : ∀ (k n i:Nat) (b:List Rat),b.length=n→dotQ ((List.range' k n).map fun a:Nat=>if (a:Int)=((k+i:Nat):Int) then 1 else 0) b=b.getD i 0:=by
  intro k n
  induction n generalizing k with
  | zero=>intro i b hb;obtain rfl:=List.eq_nil_of_length_eq_zero hb;simp [dotQ]
  | succ n ih =>
   intro i b hb
   cases b with
   | nil=>simp at hb
   | cons y b =>
    rw[List.range'_succ,List.map_cons,dotQ]
    cases i with
    | zero =>
     have hz:((List.range' (k+1) n).map fun a:Nat=>if (a:Int)=((k+0:Nat):Int) then (1:Rat) else 0)=List.replicate n 0:=by
      rw[List.eq_replicate_iff]
      refine ⟨by simp,fun x hx => ?_⟩
      obtain ⟨a,ha,rfl⟩:=List.mem_map.1 hx
      rw[if_neg]
      have:=(List.mem_range'_1.1 ha).1
      omega
     rw[hz,dotQ_zeros,if_pos (by simp)]
     simp [Rat.add_zero]
    | succ i =>
     have:=ih (k+1) i b (by simpa using hb)
     rw[show k+1+i=k+(i+1) by omega]at this
     rw[this,if_neg (by omega),List.getD_cons_succ]
     grind
 refine List.ext_getElem? fun r => ?_
 simp only[mvQ,idQ,List.getElem?_map]
 by_cases h:r<n
 ·rw[List.getElem?_range h]
  have:=unit 0 n r b hb
  rw[Nat.zero_add]at this
  simp only[Option.map_some,unitL,List.range_eq_range']at this ⊢
  rw[this,List.getD_eq_getElem?_getD,List.getElem?_eq_getElem (by omega)]
  rfl
 ·rw[List.getElem?_eq_none (by simp;omega),List.getElem?_eq_none (by omega)]
  rfl
def conv (A h:Nat→Rat) (K:Nat):Nat→Rat
 | 0=>0
 | a+1=>conv A h K a+A a*h (K-a)
end Go.Eng
namespace Go.Eng
def Ker (m:List (List Rat)) (X:List Rat):Prop := ∀ r∈m,dotQ r X=0
def comb (p f l:Rat) (r t:List Rat):List Rat:=List.zipWith (fun x y=>(x*p-y*f)/l) r t
theorem comb_len {p f l:Rat} {r t:List Rat} (h:r.length=t.length):(comb p f l r t).length=r.length:=by simp [comb,h]
theorem comb_dot (p f l:Rat) : ∀ (r t X:List Rat),r.length=t.length→dotQ (comb p f l r t) X=(p*dotQ r X-f*dotQ t X)/l
 | [],[],X,_=>by
  show dotQ [] X=_
  simp only[dotQ,Rat.div_def];grind
 | x::r,y::t,[],_=>by
  simp only[comb,List.zipWith_cons_cons,dotQ,Rat.div_def];grind
 | x::r,y::t,z::X,h=>by
  have ih:=comb_dot p f l r t X (by simpa using h)
  simp only[comb]at ih
  simp only[comb,List.zipWith_cons_cons,dotQ,ih,Rat.div_def];grind
theorem comb_at {p f l:Rat} {r t:List Rat} {j:Nat} {x y:Rat} (hx:r[j]? = some x) (hy:t[j]? = some y):(comb p f l r t)[j]? = some ((x*p-y*f)/l):=by
 simp [comb,List.getElem?_zipWith,hx,hy]
theorem mem_set_of {m:List (List Rat)} {i:Nat} {x r:List Rat} (h:r∈m.set i x):r=x ∨ ∃ j,j≠i∧m[j]? = some r:=by
 obtain ⟨j,hj⟩:=List.getElem?_of_mem h
 rw[List.getElem?_set]at hj
 by_cases e:i=j
 ·subst e
  rw[if_pos rfl]at hj
  split at hj
  ·exact Or.inl (Option.some.inj hj).symm
  ·cases hj
 ·rw[if_neg e]at hj
  exact Or.inr ⟨j,Ne.symm e,hj⟩
theorem ker_sweep {m:List (List Rat)} {i k:Nat} {r t:List Rat} {p f l:Rat} (hi:m[i]? = some r) (hk:m[k]? = some t) (hik:k≠i) (hl:r.length=t.length) (hp:p≠0) (h0:l≠0) (X:List Rat):Ker (m.set i (comb p f l r t)) X↔Ker m X:=by
 have hc:=comb_dot p f l r t X hl
 have hil:=(List.getElem?_eq_some_iff.1 hi).1
 constructor
 ·intro h r' hr'
  have ht:dotQ t X=0:=h t (by
   refine List.mem_of_getElem? (i:=k) ?_
   rw[List.getElem?_set,if_neg (Ne.symm hik)];exact hk)
  have hn:dotQ (comb p f l r t) X=0:=h _ (List.mem_of_getElem? (i:=i) (by rw[List.getElem?_set,if_pos rfl,if_pos hil]))
  rw[hc,ht]at hn
  have hr0:dotQ r X=0:=by
   have e1:=Rat.div_mul_cancel h0 (a:=p*dotQ r X-f*0)
   rw[hn]at e1
   have e2:p*dotQ r X=0:=by grind
   rcases Rat.mul_eq_zero.1 e2 with h|h
   ·exact absurd h hp
   ·exact h
  obtain ⟨j,hj⟩:=List.getElem?_of_mem hr'
  by_cases e:j=i
  ·subst e
   obtain rfl:=Option.some.inj (hi.symm.trans hj)
   exact hr0
  ·exact h r' (List.mem_of_getElem? (i:=j) (by rw[List.getElem?_set,if_neg (Ne.symm e)];exact hj))
 ·intro h r' hr'
  rcases mem_set_of hr' with rfl|⟨j,_,hj⟩
  ·rw[hc,h r (List.mem_of_getElem? hi),h t (List.mem_of_getElem? hk),Rat.div_def];grind
  ·exact h r' (List.mem_of_getElem? hj)
theorem ker_swap {m:List (List Rat)} {i k:Nat} {a b:List Rat} (hi:m[i]? = some a) (hk:m[k]? = some b) (X:List Rat):Ker ((m.set i b).set k a) X↔Ker m X:=by
 have hil:=(List.getElem?_eq_some_iff.1 hi).1
 have hkl:=(List.getElem?_eq_some_iff.1 hk).1
 constructor
 ·intro h r hr
  obtain ⟨j,hj⟩:=List.getElem?_of_mem hr
  by_cases e1:j=k
  ·subst e1
   obtain rfl:=Option.some.inj (hk.symm.trans hj)
   by_cases e2:i=j
   ·subst e2
    obtain rfl:=Option.some.inj (hi.symm.trans hk)
    exact h _ (List.mem_of_getElem? (i:=i) (by rw[List.getElem?_set,if_pos rfl,List.length_set,if_pos hil]))
   ·exact h _ (List.mem_of_getElem? (i:=i) (by rw[List.getElem?_set,if_neg (Ne.symm e2),List.getElem?_set,if_pos rfl,if_pos hil]))
  ·by_cases e2:j=i
   ·subst e2
    obtain rfl:=Option.some.inj (hi.symm.trans hj)
    exact h _ (List.mem_of_getElem? (i:=k) (by rw[List.getElem?_set,if_pos rfl,List.length_set,if_pos hkl]))
   ·exact h _ (List.mem_of_getElem? (i:=j) (by rw[List.getElem?_set,if_neg (Ne.symm e1),List.getElem?_set,if_neg (Ne.symm e2)];exact hj))
 ·intro h r hr
  rcases mem_set_of hr with rfl|⟨j,_,hj⟩
  ·exact h _ (List.mem_of_getElem? hi)
  ·rcases mem_set_of (List.mem_of_getElem? hj) with rfl|⟨q,_,hq⟩
   ·exact h _ (List.mem_of_getElem? hk)
   ·exact h _ (List.mem_of_getElem? hq)
structure Ech (m:List (List Rat)) (W c:Nat) (P:List Nat):Prop where
 lr : ∀ r∈m,r.length=W
 pl:P.length≤m.length
 inc : ∀ i j p q:Nat,i<j→P[i]? = some p→P[j]? = some q→p<q
 pb : ∀ p∈P,p<c
 nz : ∀ (i p:Nat) (r:List Rat),P[i]? = some p→m[i]? = some r→r.getD p 0≠0 ∧ ∀ j,j<p→r.getD j 0=0
 zr : ∀ (i:Nat) (r:List Rat),P.length≤i→m[i]? = some r → ∀ j,j<c→r.getD j 0=0
theorem Ech.start {m:List (List Rat)} {W:Nat} (h : ∀ r∈m,r.length=W):Ech m W 0 [] :=
 ⟨h,Nat.zero_le _,fun i j p q _ h=>by simp at h,(fun p h=>by cases h),(fun i p r h=>by simp at h),fun i r _ _ j hj=>absurd hj (by omega)⟩
theorem Ech.skip {m:List (List Rat)} {W c:Nat} {P:List Nat} (h:Ech m W c P) (hz : ∀ i r,P.length≤i→m[i]? = some r→r.getD c 0=0):Ech m W (c+1) P :=
 ⟨h.lr,h.pl,h.inc,fun p hp=>Nat.lt_succ_of_lt (h.pb p hp),h.nz,fun i r hi hr j hj=>by
  by_cases e:j=c
  ·subst e;exact hz i r hi hr
  ·exact h.zr i r hi hr j (by omega)⟩
theorem Ech.swap {m:List (List Rat)} {W c i k:Nat} {P:List Nat} {a b:List Rat} (h:Ech m W c P) (hi:m[i]? = some a) (hk:m[k]? = some b) (h1:P.length≤i) (h2:P.length≤k):Ech ((m.set i b).set k a) W c P:=by
 have hg : ∀ q,q<P.length→((m.set i b).set k a)[q]? = m[q]? := fun q hq=>by
  rw[List.getElem?_set,if_neg (by omega),List.getElem?_set,if_neg (by omega)]
 have hm : ∀ q r,P.length≤q→((m.set i b).set k a)[q]? = some r → ∃ q',P.length≤q'∧m[q']? = some r:=fun q r hq hr=>by
  rw[List.getElem?_set]at hr
  split at hr
  ·split at hr
   ·obtain rfl:=Option.some.inj hr;exact ⟨i,h1,hi⟩
   ·cases hr
  ·rw[List.getElem?_set]at hr
   split at hr
   ·split at hr
    ·obtain rfl:=Option.some.inj hr;exact ⟨k,h2,hk⟩
    ·cases hr
   ·exact ⟨q,hq,hr⟩
 refine ⟨fun r hr => ?_,by simpa using h.pl,h.inc,h.pb,fun q p r hp hr => ?_,fun q r hq hr j hj => ?_⟩
 ·rcases mem_set_of hr with rfl|⟨j,_,hj⟩
  ·exact h.lr _ (List.mem_of_getElem? hi)
  ·rcases mem_set_of (List.mem_of_getElem? hj) with rfl|⟨q,_,hq⟩
   ·exact h.lr _ (List.mem_of_getElem? hk)
   ·exact h.lr _ (List.mem_of_getElem? hq)
 ·rw[hg q (List.getElem?_eq_some_iff.1 hp).1]at hr
  exact h.nz q p r hp hr
 ·obtain ⟨q',h3,h4⟩:=hm q r hq hr
  exact h.zr q' r h3 h4 j hj
theorem Ech.pivot {m:List (List Rat)} {W c:Nat} {P:List Nat} {t:List Rat} (h:Ech m W c P) (ht:m[P.length]? = some t) (hn:t.getD c 0≠0) (hz : ∀ i r,P.length<i→m[i]? = some r→r.getD c 0=0):Ech m W (c+1) (P++[c]):=by
 have hpl:=(List.getElem?_eq_some_iff.1 ht).1
 refine ⟨h.lr,by simp;omega,fun i j p q hij hp hq => ?_,fun p hp => ?_,fun i p r hp hr => ?_,fun i r hi hr j hj => ?_⟩
 ·have hjl:=(List.getElem?_eq_some_iff.1 hq).1
  rw[List.length_append,List.length_singleton]at hjl
  rw[List.getElem?_append_left (by omega)]at hp
  by_cases e:j<P.length
  ·rw[List.getElem?_append_left e]at hq
   exact h.inc i j p q hij hp hq
  ·rw[List.getElem?_append_right (by omega),show j-P.length=0 by omega]at hq
   obtain rfl:=Option.some.inj hq
   exact h.pb p (List.mem_of_getElem? hp)
 ·rcases List.mem_append.1 hp with hp|hp
  ·exact Nat.lt_succ_of_lt (h.pb p hp)
  ·obtain rfl:=List.mem_singleton.1 hp;omega
 ·by_cases e:i<P.length
  ·rw[List.getElem?_append_left e]at hp
   exact h.nz i p r hp hr
  ·have hil:=(List.getElem?_eq_some_iff.1 hp).1
   rw[List.length_append,List.length_singleton]at hil
   rw[List.getElem?_append_right (by omega),show i-P.length=0 by omega]at hp
   obtain rfl:=Option.some.inj hp
   obtain rfl:i=P.length:=by omega
   obtain rfl:=Option.some.inj (ht.symm.trans hr)
   exact ⟨hn,fun j hj=>h.zr P.length _ (Nat.le_refl _) ht j hj⟩
 ·rw[List.length_append,List.length_singleton]at hi
  by_cases e:j=c
  ·subst e;exact hz i r (by omega) hr
  ·exact h.zr i r (by omega) hr j (by omega)
theorem Ech.diag {m:List (List Rat)} {W c:Nat} {P:List Nat} (h:Ech m W c P) (hP:P.length=c) : ∀ i p:Nat,P[i]? = some p→p=i:=by
 have up : ∀ d i p:Nat,P[i]? = some p→i+d<c→p+d<c:=by
  intro d
  induction d with
  | zero=>intro i p hp _;exact h.pb p (List.mem_of_getElem? hp)
  | succ d ih =>
   intro i p hp hi
   obtain ⟨q,hq⟩ : ∃ q,P[i+1]? = some q:=⟨_,List.getElem?_eq_getElem (by omega)⟩
   have h1:=h.inc i (i+1) p q (by omega) hp hq
   have h2:=ih (i+1) q hq (by omega)
   omega
 have dn : ∀ i p:Nat,P[i]? = some p→i≤p:=by
  intro i
  induction i with
  | zero=>intro p _;omega
  | succ i ih =>
   intro p hp
   have hil:=(List.getElem?_eq_some_iff.1 hp).1
   obtain ⟨q,hq⟩ : ∃ q,P[i]? = some q:=⟨_,List.getElem?_eq_getElem (by omega)⟩
   have h1:=h.inc i (i+1) q p (by omega) hq hp
   have h2:=ih q hq
   omega
 intro i p hp
 have hil:=(List.getElem?_eq_some_iff.1 hp).1
 have h1:=dn i p hp
 have h2:=up (c-1-i) i p hp (by omega)
 omega
end Go.Eng

namespace Go.Eng
def sumF (f:Nat→Rat):Nat→Rat
 | 0=>0
 | n+1=>sumF f n+f n
theorem sumF_congr {f g:Nat→Rat} : ∀ n,(∀ j,j<n→f j=g j)→sumF f n=sumF g n
 | 0,_=>rfl
 | n+1,h=>by rw[sumF,sumF,sumF_congr n fun j hj=>h j (by omega),h n (by omega)]
theorem sumF_zero {f:Nat→Rat} : ∀ n,(∀ j,j<n→f j=0)→sumF f n=0
 | 0,_=>rfl
 | n+1,h=>by rw[sumF,sumF_zero n fun j hj=>h j (by omega),h n (by omega),Rat.add_zero]
theorem sumF_tail {f:Nat→Rat} {n:Nat} : ∀ d,(∀ j,n≤j→f j=0)→sumF f (n+d)=sumF f n
 | 0,_=>rfl
 | d+1,h=>by rw[←Nat.add_assoc,sumF,sumF_tail d h,h (n+d) (by omega),Rat.add_zero]
theorem sumF_one {f:Nat→Rat} {k:Nat} : ∀ n,k<n→(∀ j,j<n→j≠k→f j=0)→sumF f n=f k
 | n+1,hk,h=>by
  by_cases e:k=n
  ·subst e
   rw[sumF,sumF_zero k fun j hj=>h j (by omega) (by omega),Rat.zero_add]
  ·rw[sumF,sumF_one n (by omega) fun j hj=>h j (by omega),h n (by omega) (Ne.symm e),Rat.add_zero]
theorem sumF_upd (R y:Nat→Rat) (v:Rat) (k:Nat) : ∀ n,sumF (fun j=>R j*(if j=k then v else y j)) n=sumF (fun j=>R j*y j) n+if k<n then R k*(v-y k) else 0
 | 0=>by simp [sumF,Rat.add_zero]
 | n+1=>by
  rw[sumF,sumF,sumF_upd R y v k n]
  by_cases e:n=k
  ·subst e
   rw[if_pos rfl,if_neg (Nat.lt_irrefl n),if_pos (Nat.lt_succ_self n)];grind
  ·rw[if_neg e]
   by_cases h:k<n
   ·rw[if_pos h,if_pos (by omega)];grind
   ·rw[if_neg h,if_neg (by omega)];grind
theorem sumF_shift (f:Nat→Rat) : ∀ n,sumF f (n+1)=f 0+sumF (fun j=>f (j+1)) n
 | 0=>by simp only[sumF];grind
 | n+1=>by rw[sumF,sumF_shift f n,sumF];grind
theorem dotQ_sum : ∀ (r X:List Rat) (n:Nat),r.length≤n→dotQ r X=sumF (fun j=>r.getD j 0*X.getD j 0) n
 | [],X,n,_=>by rw[sumF_zero n fun j _=>by simp];rfl
 | x::r,[],n,_=>by rw[dotQ_nil,sumF_zero n fun j _=>by simp]
 | x::r,y::X,0,h=>by simp at h
 | x::r,y::X,n+1,h=>by
  rw[sumF_shift,dotQ,dotQ_sum r X n (by simpa using h)]
  simp
def atQ (m:List (List Rat)) (i j:Nat):Rat:=(m.getD i []).getD j 0
theorem atQ_eq {m:List (List Rat)} {i:Nat} {r:List Rat} (h:m[i]? = some r) (j:Nat):atQ m i j=r.getD j 0:=by
 rw[atQ,show m.getD i []=r by rw[List.getD_eq_getElem?_getD,h];rfl]
def Tri (R:Nat→Nat→Rat) (c:Nat):Prop := ∀ i,i<c→R i i≠0 ∧ ∀ j,j<i→R i j=0
theorem tri_ex {R:Nat→Nat→Rat} {c:Nat} (h:Tri R c) (f:Nat→Rat) : ∀ d,d≤c → ∃ y:Nat→Rat,∀ i,c-d≤i→i<c→sumF (fun j=>R i j*y j) c=f i
 | 0,_=>⟨fun _=>0,fun i h1 h2=>absurd h2 (by omega)⟩
 | d+1,hd=>by
  obtain ⟨y,hy⟩:=tri_ex h f d (by omega)
  obtain ⟨k,hk⟩ : ∃ k,k=c-(d+1):=⟨_,rfl⟩
  have hkc:k<c:=by omega
  refine ⟨fun j=>if j=k then y k+(f k-sumF (fun j=>R k j*y j) c)/R k k else y j,fun i h1 h2 => ?_⟩
  rw[sumF_upd (R i) y _ k c,if_pos hkc]
  by_cases e:i=k
  ·subst e
   have h0:=(h i hkc).1
   have:=Rat.div_mul_cancel h0 (a:=f i-sumF (fun j=>R i j*y j) c)
   grind
  ·rw[hy i (by omega) h2,(h i h2).2 k (by omega)];grind
theorem tri_zero {R:Nat→Nat→Rat} {c:Nat} (h:Tri R c) {y:Nat→Rat} (hy : ∀ i,i<c→sumF (fun j=>R i j*y j) c=0) : ∀ d,d≤c → ∀ j,c-d≤j→j<c→y j=0
 | 0,_=>fun j h1 h2=>absurd h2 (by omega)
 | d+1,hd=>fun j h1 h2=>by
  have ih:=tri_zero h hy d (by omega)
  by_cases e:c-d≤j
  ·exact ih j e h2
  ·have h3:=hy j h2
   rw[sumF_one c h2 fun q hq hn=>by
    by_cases e2:q<j
    ·rw[(h j h2).2 q e2,Rat.zero_mul]
    ·rw[ih q (by omega) hq,Rat.mul_zero]]at h3
   rcases Rat.mul_eq_zero.1 h3 with h4|h4
   ·exact absurd h4 (h j h2).1
   ·exact h4
theorem Ech.low {m:List (List Rat)} {W c:Nat} {P:List Nat} (h:Ech m W c P) : ∀ i p:Nat,P[i]? = some p→i≤p
 | 0,p,_=>Nat.zero_le p
 | i+1,p,hp=>by
  have hil:=(List.getElem?_eq_some_iff.1 hp).1
  obtain ⟨q,hq⟩ : ∃ q,P[i]? = some q:=⟨_,List.getElem?_eq_getElem (by omega)⟩
  have h1:=h.inc i (i+1) q p (by omega) hq hp
  have h2:=h.low i q hq
  omega
theorem Ech.le {m:List (List Rat)} {W c:Nat} {P:List Nat} (h:Ech m W c P):P.length≤c:=by
 cases e:P.length with
 | zero=>exact Nat.zero_le c
 | succ k =>
  obtain ⟨q,hq⟩ : ∃ q,P[k]? = some q:=⟨_,List.getElem?_eq_getElem (by omega)⟩
  have h1:=h.low k q hq
  have h2:=h.pb q (List.mem_of_getElem? hq)
  omega
theorem Ech.wide {m:List (List Rat)} {W c n:Nat} {P:List Nat} (h:Ech m W c P) (hP:P.length=m.length) (hn:c≤n):Ech m W n P :=
 ⟨h.lr,h.pl,h.inc,fun p hp=>Nat.lt_of_lt_of_le (h.pb p hp) hn,h.nz,fun i r hi hr=>by
  have:=(List.getElem?_eq_some_iff.1 hr).1
  omega⟩
theorem row_ker {m:List (List Rat)} {W i n:Nat} {r X:List Rat} (hr:m[i]? = some r) (hl:r.length=W) (hn:n≤W) (hX : ∀ j,n≤j→X.getD j 0=0):dotQ r X=sumF (fun j=>atQ m i j*X.getD j 0) n:=by
 obtain ⟨d,rfl⟩:=Nat.exists_eq_add_of_le hn
 rw[dotQ_sum r X (n+d) (by omega),sumF_tail d fun j hj=>by rw[hX j hj,Rat.mul_zero]]
 exact sumF_congr n fun j _=>by rw[atQ_eq hr]
theorem Ech.tri {m:List (List Rat)} {W n c:Nat} {P:List Nat} (h:Ech m W n P) (hc : ∀ i,i<c→P[i]? = some i):Tri (atQ m) c:=fun i hi=>by
 have h1:=(List.getElem?_eq_some_iff.1 (hc i hi)).1
 obtain ⟨r,hr⟩ : ∃ r,m[i]? = some r:=⟨_,List.getElem?_eq_getElem (Nat.lt_of_lt_of_le h1 h.pl)⟩
 have:=h.nz i i r (hc i hi) hr
 rw[atQ_eq hr]
 exact ⟨this.1,fun j hj=>by rw[atQ_eq hr];exact this.2 j hj⟩
theorem Ech.full {m:List (List Rat)} {W n:Nat} {P:List Nat} (h:Ech m W n P) (hP:P.length=n) (hW:n≤W) {X:List Rat} (hk:Ker m X) (hX : ∀ j,n≤j→X.getD j 0=0) (j:Nat):X.getD j 0=0:=by
 have hd : ∀ i,i<n→P[i]? = some i:=fun i hi=>by
  obtain ⟨q,hq⟩ : ∃ q,P[i]? = some q:=⟨_,List.getElem?_eq_getElem (by omega)⟩
  rw[hq,h.diag hP i q hq]
 have ht:=h.tri hd
 by_cases e:j<n
 ·refine tri_zero ht (y:=fun j=>X.getD j 0) (fun i hi => ?_) n (Nat.le_refl n) j (by omega) e
  obtain ⟨r,hr⟩ : ∃ r,m[i]? = some r:=⟨_,List.getElem?_eq_getElem (by have:=h.pl;omega)⟩
  rw[←row_ker hr (h.lr r (List.mem_of_getElem? hr)) hW hX]
  exact hk r (List.mem_of_getElem? hr)
 ·exact hX j (by omega)
theorem Ech.gap {m:List (List Rat)} {W n:Nat} {P:List Nat} (h:Ech m W n P) : ∀ c:Nat,c≤P.length→(∀ i:Nat,i<c→P[i]? = some i) ∨ ∃ k,(∀ i,i<k→P[i]? = some i) ∧ ∃ p:Nat,P[k]? = some p∧k<p
 | 0,_=>Or.inl fun i hi=>absurd hi (by omega)
 | c+1,hc=>by
  rcases h.gap c (by omega) with h1|h1
  ·obtain ⟨q,hq⟩ : ∃ q,P[c]? = some q:=⟨_,List.getElem?_eq_getElem (by omega)⟩
   have h2:=h.low c q hq
   by_cases e:q=c
   ·subst e
    exact Or.inl fun i hi=>by
     by_cases e:i=q
     ·subst e;exact hq
     ·exact h1 i (by omega)
   ·exact Or.inr ⟨c,h1,q,hq,by omega⟩
  ·exact Or.inr h1
theorem getD_map_range (f:Nat→Rat) (W j:Nat):((List.range W).map f).getD j 0=if j<W then f j else 0:=by
 rw[List.getD_eq_getElem?_getD,List.getElem?_map]
 by_cases h:j<W
 ·rw[List.getElem?_range h,if_pos h];rfl
 ·rw[List.getElem?_eq_none (by simp;omega),if_neg h];rfl
theorem Ech.less {m:List (List Rat)} {W n:Nat} {P:List Nat} (h:Ech m W n P) (hP:P.length<n) (hW:n≤W) : ∃ X:List Rat,X.length=W∧Ker m X∧(∀ j,n≤j→X.getD j 0=0) ∧ ∃ j,X.getD j 0≠0:=by
 obtain ⟨c,hcn,hc,hz⟩ : ∃ c,c<n∧(∀ i,i<c→P[i]? = some i) ∧ ∀ i r,c≤i→m[i]? = some r → ∀ j,j≤c→r.getD j 0=0:=by
  rcases h.gap P.length (Nat.le_refl _) with h1|⟨k,h1,p,h2,h3⟩
  ·exact ⟨P.length,hP,h1,fun i r hi hr j hj=>h.zr i r hi hr j (by omega)⟩
  ·refine ⟨k,Nat.lt_trans h3 (h.pb p (List.mem_of_getElem? h2)),h1,fun i r hi hr j hj => ?_⟩
   by_cases e:i<P.length
   ·obtain ⟨q,hq⟩ : ∃ q,P[i]? = some q:=⟨_,List.getElem?_eq_getElem e⟩
    refine (h.nz i q r hq hr).2 j ?_
    by_cases e2:i=k
    ·subst e2
     obtain rfl:=Option.some.inj (h2.symm.trans hq)
     omega
    ·have:=h.inc k i p q (by omega) h2 hq
     omega
   ·exact h.zr i r (by omega) hr j (by have:=h.pb p (List.mem_of_getElem? h2);omega)
 obtain ⟨y,hy⟩:=tri_ex (h.tri hc) (fun i=>atQ m i c) c (Nat.le_refl c)
 have hg : ∀ j,((List.range W).map fun j=>if j<c then y j else if j=c then (-1:Rat) else 0).getD j 0=if j<c then y j else if j=c then (-1:Rat) else 0:=fun j=>by
  rw[getD_map_range]
  by_cases e:j<W
  ·rw[if_pos e]
  ·rw[if_neg e,if_neg (by omega),if_neg (by omega)]
 refine ⟨(List.range W).map fun j=>if j<c then y j else if j=c then (-1:Rat) else 0,by simp,fun r hr => ?_,fun j hj => ?_,c,?_⟩
 ·obtain ⟨i,hi⟩:=List.getElem?_of_mem hr
  rw[row_ker hi (h.lr r hr) (show c+1≤W by omega) fun j hj=>by rw[hg,if_neg (by omega),if_neg (by omega)],sumF,hg,if_neg (Nat.lt_irrefl c),if_pos rfl]
  by_cases e:i<c
  ·rw[sumF_congr c (g:=fun j=>atQ m i j*y j) fun j hj=>by rw[hg,if_pos hj],hy i (by omega) e];grind
  ·rw[sumF_zero c fun j hj=>by rw[atQ_eq hi,hz i r (by omega) hi j (by omega),Rat.zero_mul],atQ_eq hi,hz i r (by omega) hi c (Nat.le_refl c),Rat.zero_mul,Rat.add_zero]
 ·rw[hg,if_neg (by omega),if_neg (by omega)]
 ·rw[hg,if_neg (Nat.lt_irrefl c),if_pos rfl]
  decide
def Scl (m a:List (List Rat)):Prop:=m.length=a.length ∧ ∀ (i:Nat) (r:List Rat),a[i]? = some r → ∃ s:Rat,s≠0∧m[i]? = some (r.map (· * s))
theorem dotQ_smr (x:Rat) : ∀ a b:List Rat,dotQ (a.map (· * x)) b=dotQ a b*x
 | [],b=>by simp [dotQ]
 | a::l,[]=>by rw[dotQ_nil,dotQ_nil,Rat.zero_mul]
 | a::l,b::k=>by
  simp only[List.map_cons,dotQ,dotQ_smr x l k];grind
theorem Scl.ker {m a:List (List Rat)} (h:Scl m a) (X:List Rat):Ker m X↔Ker a X:=by
 constructor
 ·intro hk r hr
  obtain ⟨i,hi⟩:=List.getElem?_of_mem hr
  obtain ⟨s,hs,hm⟩:=h.2 i r hi
  have:=hk _ (List.mem_of_getElem? hm)
  rw[dotQ_smr]at this
  rcases Rat.mul_eq_zero.1 this with h|h
  ·exact h
  ·exact absurd h hs
 ·intro hk r hr
  obtain ⟨i,hi⟩:=List.getElem?_of_mem hr
  obtain ⟨q,hq⟩ : ∃ q,a[i]? = some q:=⟨_,List.getElem?_eq_getElem (by have:=(List.getElem?_eq_some_iff.1 hi).1;have:=h.1;omega)⟩
  obtain ⟨s,hs,hm⟩:=h.2 i q hq
  obtain rfl:=Option.some.inj (hi.symm.trans hm)
  rw[dotQ_smr,hk q (List.mem_of_getElem? hq),Rat.zero_mul]
def join2 (a b:List (List Rat)):List (List Rat):=List.zipWith (· ++ ·) a b
def NS (n:Nat) (a:List (List Rat)):Prop := ∀ X:List Rat,X.length=n→Ker a X → ∀ j,X.getD j 0=0
theorem dotQ_app : ∀ (u y v z:List Rat),u.length=y.length→dotQ (u++v) (y++z)=dotQ u y+dotQ v z
 | [],[],v,z,_=>by simp [dotQ,Rat.zero_add]
 | x::u,w::y,v,z,h=>by
  simp only[List.cons_append,dotQ,dotQ_app u y v z (by simpa using h)];grind
theorem join_at {a b:List (List Rat)} {i:Nat} {r s:List Rat} (hr:a[i]? = some r) (hs:b[i]? = some s):(join2 a b)[i]? = some (r++s):=by
 simp [join2,List.getElem?_zipWith,hr,hs]
theorem ker_join {n:Nat} {a b:List (List Rat)} (hl:a.length=b.length) (ha : ∀ r∈a,r.length=n) (y z:List Rat) (hy:y.length=n):Ker (join2 a b) (y++z) ↔ ∀ (i:Nat) (r s:List Rat),a[i]? = some r→b[i]? = some s→dotQ r y+dotQ s z=0:=by
 constructor
 ·intro h i r s hr hs
  rw[←dotQ_app r y s z (by rw[ha r (List.mem_of_getElem? hr),hy])]
  exact h _ (List.mem_of_getElem? (join_at hr hs))
 ·intro h q hq
  obtain ⟨i,hi⟩:=List.getElem?_of_mem hq
  have hil:=(List.getElem?_eq_some_iff.1 hi).1
  simp only[join2,List.length_zipWith]at hil
  obtain ⟨r,hr⟩ : ∃ r,a[i]? = some r:=⟨_,List.getElem?_eq_getElem (by omega)⟩
  obtain ⟨s,hs⟩ : ∃ s,b[i]? = some s:=⟨_,List.getElem?_eq_getElem (by omega)⟩
  obtain rfl:=Option.some.inj ((join_at hr hs).symm.trans hi)
  rw[dotQ_app r y s z (by rw[ha r (List.mem_of_getElem? hr),hy])]
  exact h i r s hr hs
theorem dotQ_zr {X:List Rat} (h : ∀ j,X.getD j 0=0) (r:List Rat):dotQ r X=0:=by
 rw[dotQ_sum r X r.length (Nat.le_refl _)]
 exact sumF_zero _ fun j _=>by rw[h,Rat.mul_zero]
theorem rank_ns {m a b:List (List Rat)} {w n:Nat} {P:List Nat} (h:Ech m (n+w) n P) (hk : ∀ X,Ker m X↔Ker (join2 a b) X) (hl:a.length=b.length) (ha : ∀ r∈a,r.length=n):P.length=n↔NS n a:=by
 constructor
 ·intro hP X hX hka j
  have h1:Ker m (X++List.replicate w 0):=(hk _).2 ((ker_join hl ha X _ hX).2 fun i r s hr hs=>by
   rw[hka r (List.mem_of_getElem? hr),dotQ_zerosR,Rat.add_zero])
  by_cases e:j<n
  ·have h2:=h.full hP (by omega) h1 (fun j hj=>by
    rw[List.getD_eq_getElem?_getD,List.getElem?_append_right (by omega),List.getElem?_replicate]
    split<;>rfl) j
   rw[List.getD_eq_getElem?_getD,List.getElem?_append_left (by omega)]at h2
   rw[List.getD_eq_getElem?_getD];exact h2
  ·rw[List.getD_eq_getElem?_getD,List.getElem?_eq_none (by omega)];rfl
 ·intro hns
  have h1:=h.le
  rcases Nat.lt_or_ge P.length n with hP|hP
  ·exfalso
   obtain ⟨X,hX,hX1,hX2,j,hj⟩:=h.less hP (by omega)
   have h2:=(hk _).1 hX1
   rw[←List.take_append_drop n X]at h2
   have htl:(X.take n).length=n:=by simp;omega
   have h3:=(ker_join hl ha _ _ htl).1 h2
   have hz : ∀ q,(X.drop n).getD q 0=0:=fun q=>by
    have:=hX2 (n+q) (by omega)
    rw[List.getD_eq_getElem?_getD]at this
    rw[List.getD_eq_getElem?_getD,List.getElem?_drop];exact this
   have h4:=hns (X.take n) htl (fun r hr=>by
    obtain ⟨i,hi⟩:=List.getElem?_of_mem hr
    obtain ⟨s,hs⟩ : ∃ s,b[i]? = some s:=⟨_,List.getElem?_eq_getElem (by have:=(List.getElem?_eq_some_iff.1 hi).1;omega)⟩
    have:=h3 i r s hi hs
    rw[dotQ_zr hz,Rat.add_zero]at this
    exact this) j
   by_cases e:j<n
   ·rw[List.getD_eq_getElem?_getD,List.getElem?_take_of_lt e,←List.getD_eq_getElem?_getD]at h4
    exact hj h4
   ·exact hj (hX2 j (by omega))
  ·omega
def negU (w c:Nat):List Rat:=(List.range w).map fun q=>if q=c then -1 else 0
theorem dot_negU {r:List Rat} {w c:Nat} (hr:r.length=w) (hc:c<w):dotQ r (negU w c) = - r.getD c 0:=by
 rw[dotQ_sum r _ w (by omega),sumF_one w hc fun j hj hn=>by rw[negU,getD_map_range,if_pos hj,if_neg hn,Rat.mul_zero],negU,getD_map_range,if_pos hc,if_pos rfl]
 grind
theorem col_sol {m a b:List (List Rat)} {w n c:Nat} {y:List Rat} (hk : ∀ X,Ker m X↔Ker (join2 a b) X) (hl:a.length=b.length) (ha : ∀ r∈a,r.length=n) (hb : ∀ r∈b,r.length=w) (hc:c<w) (hy:y.length=n) (hm : ∀ r∈m,r.length=n+w) (hs : ∀ r∈m,dotQ (r.take n) y=r.getD (n+c) 0) {i:Nat} {r s:List Rat} (hr:a[i]? = some r) (hi:b[i]? = some s):dotQ r y=s.getD c 0:=by
 have h1:Ker m (y++negU w c):=fun q hq=>by
  have hq1:=hm q hq
  have e:q=q.take n++q.drop n:=(List.take_append_drop n q).symm
  rw[e,dotQ_app _ _ _ _ (by rw[List.length_take,hy];omega),hs q hq,dot_negU (by rw[List.length_drop];omega) hc]
  have:(q.drop n).getD c 0=q.getD (n+c) 0:=by rw[List.getD_eq_getElem?_getD,List.getElem?_drop,←List.getD_eq_getElem?_getD]
  rw[this];grind
 have h2:=(ker_join hl ha y _ hy).1 ((hk _).1 h1) i r s hr hi
 rw[dot_negU (hb s (List.mem_of_getElem? hi)) hc]at h2
 grind
def ofCols (y:Nat→List Rat) (n:Nat):List (List Rat):=(List.range n).map fun i:Nat=>(List.range n).map fun c=>(y c).getD i 0
theorem ofCols_col {y:Nat→List Rat} {n c:Nat} (hy:(y c).length=n) (hc:c<n):colQ (ofCols y n) c=y c:=by
 refine List.ext_getElem? fun i => ?_
 simp only[colQ,ofCols,List.map_map,List.getElem?_map]
 by_cases h:i<n
 ·rw[List.getElem?_range h,Option.map_some,Function.comp_apply,getD_map_range,if_pos hc,List.getD_eq_getElem?_getD,List.getElem?_eq_getElem (by omega)];rfl
 ·rw[List.getElem?_eq_none (by simp;omega),List.getElem?_eq_none (by omega)];rfl
theorem unit_getD (n i j:Nat):(unitL n i).getD j 0=if j<n then (if j=i then 1 else 0) else 0:=by
 rw[unitL,getD_map_range]
 by_cases h:j<n
 ·rw[if_pos h,if_pos h]
  by_cases e:j=i
  ·rw[if_pos e,if_pos (by omega)]
  ·rw[if_neg e,if_neg (by omega)]
 ·rw[if_neg h,if_neg h]
theorem inv_right {a:List (List Rat)} {n:Nat} {y:Nat→List Rat} (ha:a.length=n) (hy : ∀ c,c<n→(y c).length=n) (h : ∀ (c i:Nat) (r:List Rat),c<n→a[i]? = some r→dotQ r (y c)=if c=i then 1 else 0):mulQ a (ofCols y n) n=idQ n:=by
 refine List.ext_getElem? fun i => ?_
 simp only[mulQ,idQ,List.getElem?_map]
 by_cases hi:i<n
 ·obtain ⟨r,hr⟩ : ∃ r,a[i]? = some r:=⟨_,List.getElem?_eq_getElem (by omega)⟩
  rw[hr,List.getElem?_range hi,Option.map_some,Option.map_some]
  congr 1
  refine List.map_congr_left fun c hc => ?_
  have hc':=List.mem_range.1 hc
  rw[ofCols_col (hy c hc') hc',h c i r hc' hr]
  by_cases e:c=i
  ·rw[if_pos e,if_pos (by omega)]
  ·rw[if_neg e,if_neg (by omega)]
 ·rw[List.getElem?_eq_none (by omega),List.getElem?_eq_none (by simp;omega)];rfl
theorem sub_ker {a:List (List Rat)} {n:Nat} (ha : ∀ r∈a,r.length=n) {X Y:List Rat} (hX:X.length=n) (hY:Y.length=n) (h:mvQ a X=mvQ a Y) (hns:NS n a):X=Y:=by
 have h1:=hns ((List.range n).map fun j=>X.getD j 0-Y.getD j 0) (by simp) (fun r hr=>by
  obtain ⟨i,hi⟩:=List.getElem?_of_mem hr
  have e:dotQ r X=dotQ r Y:=by
   have:=congrArg (·[i]?) h
   simp only[mvQ,List.getElem?_map,hi,Option.map_some,Option.some.injEq]at this
   exact this
  have hs : ∀ k,sumF (fun j=>r.getD j 0*((List.range n).map fun j=>X.getD j 0-Y.getD j 0).getD j 0) k=sumF (fun j=>r.getD j 0*X.getD j 0) k-sumF (fun j=>r.getD j 0*Y.getD j 0) k:=by
   intro k
   induction k with
   | zero=>simp only[sumF];grind
   | succ k ih =>
    rw[sumF,sumF,sumF,ih,getD_map_range]
    by_cases e:k<n
    ·rw[if_pos e];grind
    ·rw[if_neg e,List.getD_eq_getElem?_getD,List.getD_eq_getElem?_getD,List.getD_eq_getElem?_getD,List.getElem?_eq_none (show X.length≤k by omega),List.getElem?_eq_none (show Y.length≤k by omega)]
     simp only[Option.getD_none];grind
  rw[dotQ_sum r _ r.length (Nat.le_refl _),hs,←dotQ_sum r X _ (Nat.le_refl _),←dotQ_sum r Y _ (Nat.le_refl _),e];grind)
 refine List.ext_getElem? fun j => ?_
 by_cases e:j<n
 ·have:=h1 j
  rw[getD_map_range,if_pos e]at this
  have h2:X.getD j 0=Y.getD j 0:=by grind
  rw[List.getD_eq_getElem?_getD,List.getD_eq_getElem?_getD,List.getElem?_eq_getElem (by omega),List.getElem?_eq_getElem (by omega)]at h2
  rw[List.getElem?_eq_getElem (by omega),List.getElem?_eq_getElem (by omega)]
  exact congrArg some h2
 ·rw[List.getElem?_eq_none (by omega),List.getElem?_eq_none (by omega)]
theorem mvQ_unit {a:List (List Rat)} {n i:Nat} (ha : ∀ r∈a,r.length=n) (hi:i<n):mvQ a (unitL n i)=colQ a i:=by
 refine List.map_congr_left fun r hr => ?_
 rw[dotQ_sum r _ n (by rw[ha r hr];exact Nat.le_refl n),sumF_one n hi fun j hj hn=>by rw[unit_getD,if_pos hj,if_neg hn,Rat.mul_zero],unit_getD,if_pos hi,if_pos rfl,Rat.mul_one]
theorem mat_ext {a b:List (List Rat)} {n:Nat} (ha:Sq n a) (hb:Sq n b) (h : ∀ c,c<n→colQ a c=colQ b c):a=b:=by
 refine List.ext_getElem? fun i => ?_
 by_cases hi:i<n
 ·obtain ⟨r,hr⟩ : ∃ r,a[i]? = some r:=⟨_,List.getElem?_eq_getElem (by rw[ha.l];exact hi)⟩
  obtain ⟨s,hs⟩ : ∃ s,b[i]? = some s:=⟨_,List.getElem?_eq_getElem (by rw[hb.l];exact hi)⟩
  rw[hr,hs]
  congr 1
  refine List.ext_getElem? fun j => ?_
  have h1:=ha.at hr
  have h2:=hb.at hs
  by_cases hj:j<n
  ·have:=congrArg (·[i]?) (h j hj)
   simp only[colQ,List.getElem?_map,hr,hs,Option.map_some,Option.some.injEq]at this
   rw[List.getD_eq_getElem?_getD,List.getD_eq_getElem?_getD,List.getElem?_eq_getElem (by omega),List.getElem?_eq_getElem (by omega)]at this
   rw[List.getElem?_eq_getElem (by omega),List.getElem?_eq_getElem (by omega)]
   exact congrArg some this
  ·rw[List.getElem?_eq_none (by omega),List.getElem?_eq_none (by omega)]
 ·rw[List.getElem?_eq_none (by rw[ha.l];omega),List.getElem?_eq_none (by rw[hb.l];omega)]
theorem inv_left {a v:List (List Rat)} {n:Nat} (ha:Sq n a) (hv:Sq n v) (hns:NS n a) (h:mulQ a v n=idQ n):mulQ v a n=idQ n:=by
 refine mat_ext (Sq.mul hv.l a) (Sq.id n) fun c hc => ?_
 have hm:=Sq.mul hv.l a (n:=n)
 have hu:(unitL n c).length=n:=by simp [unitL]
 rw[←mvQ_unit hm.r hc,←mvQ_unit (Sq.id n).r hc,mvQ_id hu]
 refine sub_ker ha.r (by rw[mvQ_len,hm.l]) hu ?_ hns
 rw[mvQ_mul v a _ ha.r,←mvQ_mul a v _ hv.r,h,mvQ_id (by rw[mvQ_len,ha.l])]
end Go.Eng

namespace Go.Eng
theorem Bt.invL {k:Nat} {y:Rat} (h:Bt k y):Bt k y⁻¹:=by
 rw[Rat.inv_def]
 rcases Int.natAbs_eq y.num with e|e
 ·rw[e,Rat.divInt_ofNat]
  exact Bt.mk (by simpa using h.2) h.1
 ·rw[e,Rat.divInt_neg',Rat.divInt_ofNat]
  exact Bt.mk (by simpa using h.2) h.1
theorem Bt.divL {k l:Nat} {x y:Rat} (hx:Bt k x) (hy:Bt l y):Bt (k+l) (x/y):=by
 rw[Rat.div_def]
 exact hx.mul hy.invL
theorem Bt.negL {k:Nat} {x:Rat} (h:Bt k x):Bt k (-x):=⟨by rw[Rat.neg_num,Int.natAbs_neg];exact h.1,by rw[Rat.neg_den];exact h.2⟩
theorem Bt.subL {k l:Nat} {x y:Rat} (hx:Bt k x) (hy:Bt l y):Bt (k+l+1) (x-y):=by
 rw[Rat.sub_eq_add_neg]
 exact hx.add hy.negL
theorem Bt.comb1 {k:Nat} {x p y f l:Rat} (hx:Bt k x) (hp:Bt k p) (hy:Bt k y) (hf:Bt k f) (hl:Bt k l):Bt (5*k+1) ((x*p-y*f)/l) :=
 (((hx.mul hp).subL (hy.mul hf)).divL hl).le (by omega)
theorem comb_mem {p f l:Rat} : ∀ {r t:List Rat} {z:Rat},z∈comb p f l r t → ∃ x∈r,∃ y∈t,z=(x*p-y*f)/l
 | [],_,z,h=>by simp [comb]at h
 | _::_,[],z,h=>by simp [comb]at h
 | x::r,y::t,z,h=>by
  simp only[comb,List.zipWith_cons_cons,List.mem_cons]at h
  rcases h with h|h
  ·exact ⟨x,List.mem_cons_self,y,List.mem_cons_self,h⟩
  ·obtain ⟨a,ha,b,hb,e⟩:=comb_mem (r:=r) (t:=t) h
   exact ⟨a,List.mem_cons_of_mem _ ha,b,List.mem_cons_of_mem _ hb,e⟩
theorem Bs.comb {k:Nat} {r t:List Rat} {p f l:Rat} (hr:Bs k r) (ht:Bs k t) (hp:Bt k p) (hf:Bt k f) (hl:Bt k l):Bs (5*k+1) (comb p f l r t):=fun z hz=>by
 obtain ⟨x,hx,y,hy,rfl⟩:=comb_mem hz
 exact Bt.comb1 (hr x hx) hp (ht y hy) hf hl
theorem comb_getD {p f l:Rat} : ∀ {r t:List Rat},r.length=t.length → ∀ j,(comb p f l r t).getD j 0=(r.getD j 0*p-t.getD j 0*f)/l
 | [],[],_,j=>by simp [comb,Rat.div_def,Rat.zero_mul,Rat.sub_eq_add_neg,Rat.neg_zero,Rat.add_zero]
 | x::r,y::t,_,0=>by simp [comb]
 | x::r,y::t,h,j+1=>by
  have:=comb_getD (p:=p) (f:=f) (l:=l) (r:=r) (t:=t) (by simpa using h) j
  simp only[comb]at this
  simpa [comb] using this
def scF (s x:Rat):Rat:=s*(((s*x).den:Nat):Rat)
def scQ (r:List Rat):Rat:=r.foldl scF 1
theorem scQ_snoc (r:List Rat) (x:Rat):scQ (r++[x])=scF (scQ r) x:=by rw[scQ,List.foldl_append];rfl
theorem scF_ne {s x:Rat} (h:s≠0):scF s x≠0:=by
 intro e
 rcases Rat.mul_eq_zero.1 e with e|e
 ·exact h e
 ·have:=(s*x).den_pos
  have:((s*x).den:Rat)=((0:Nat):Rat):=e
  have:=Rat.natCast_inj.1 this
  omega
theorem scQ_ne (r:List Rat):scQ r≠0:=by
 have : ∀ (r:List Rat) (s:Rat),s≠0→r.foldl scF s≠0:=by
  intro r
  induction r with
  | nil=>intro s h;exact h
  | cons x r ih=>intro s h;exact ih _ (scF_ne h)
 exact this r 1 (by decide)
theorem scF_bt {a k:Nat} {s x:Rat} (hs:Bt a s) (hx:Bt k x):Bt (2*a+k) (scF s x):=by
 have h1:=(hs.mul hx).2
 have h2:Bt (a+k) (((s*x).den:Nat):Rat):=by
  have:=Bt.ofInt (k:=a+k) (z:=(((s*x).den:Nat):Int)) (by simpa using h1)
  rwa [Rat.intCast_natCast]at this
 exact (hs.mul h2).le (by omega)
theorem scQ_bt {k:Nat} (hk:1≤k) : ∀ {r:List Rat},Bs k r→Bt (3^r.length*k-k) (scQ r):=by
 have : ∀ (r:List Rat) (s:Rat) (i:Nat),Bs k r→Bt (3^i*k-k) s→Bt (3^(i+r.length)*k-k) (r.foldl scF s):=by
  intro r
  induction r with
  | nil=>intro s i _ h;exact h
  | cons x r ih =>
   intro s i hr h
   have h1:=scF_bt h (hr x List.mem_cons_self)
   have h2:=ih (scF s x) (i+1) (fun y hy=>hr y (List.mem_cons_of_mem _ hy)) (h1.le (by
    have:1≤3^i:=Nat.one_le_pow _ _ (by omega)
    have e:3^(i+1)*k=3*(3^i*k):=by rw[Nat.pow_succ];rw[Nat.mul_comm (3^i) 3,Nat.mul_assoc]
    have h3:k≤3^i*k:=Nat.le_mul_of_pos_left k (by omega)
    rw[e];omega))
   rw[List.length_cons,show i+(r.length+1)=i+1+r.length by omega]
   exact h2
 intro r hr
 have:=this r 1 0 hr (Bt.one _)
 rwa [Nat.zero_add]at this
def whole (m:List (List Rat)):List (List Rat):=m.map fun r=>r.map (· * scQ r)
theorem whole_scl (m:List (List Rat)):Scl (whole m) m:=⟨by simp [whole],fun i r hr=>⟨scQ r,scQ_ne r,by simp [whole,hr]⟩⟩
theorem whole_len {m:List (List Rat)} {W:Nat} (h : ∀ r∈m,r.length=W) : ∀ r∈whole m,r.length=W:=fun r hr=>by
 obtain ⟨q,hq,rfl⟩:=List.mem_map.1 hr
 simpa using h q hq
theorem whole_ms {m:List (List Rat)} {W k:Nat} (hk:1≤k) (h : ∀ r∈m,r.length=W) (hb:Ms k m):Ms (3^W*k) (whole m):=fun r hr=>by
 obtain ⟨q,hq,rfl⟩:=List.mem_map.1 hr
 have h1:=scQ_bt hk (hb q hq)
 rw[h q hq]at h1
 intro x hx
 obtain ⟨y,hy,rfl⟩:=List.mem_map.1 hx
 have h2:k≤3^W*k:=Nat.le_mul_of_pos_left k (Nat.pow_pos (by omega))
 exact ((hb q hq y hy).mul h1).le (by omega)
def pdQ:List (List Rat)→List Nat→Rat
 | r::m,p::P=>r.getD p 0*pdQ m P
 | _,_=>1
theorem pdQ_nil : ∀ m,pdQ m []=1
 | []=>rfl
 | _::_=>rfl
theorem pdQ_set : ∀ (m:List (List Rat)) (P:List Nat) (i:Nat) (x:List Rat),P.length≤i→pdQ (m.set i x) P=pdQ m P
 | [],_,_,_,_=>rfl
 | _::_,[],_,_,_=>by rw[pdQ_nil,pdQ_nil]
 | r::m,p::P,0,x,h=>by simp at h
 | r::m,p::P,i+1,x,h=>by
  rw[List.set_cons_succ,pdQ,pdQ,pdQ_set m P i x (by simpa using h)]
theorem pdQ_snoc (c:Nat) (t:List Rat) : ∀ (m:List (List Rat)) (P:List Nat),m[P.length]? = some t→pdQ m (P++[c])=pdQ m P*t.getD c 0
 | [],_,h=>by simp at h
 | r::m,[],h=>by
  obtain rfl:r=t:=by simpa using h
  rw[List.nil_append,pdQ,pdQ_nil,pdQ_nil,Rat.mul_one,Rat.one_mul]
 | r::m,p::P,h=>by
  rw[List.cons_append,pdQ,pdQ,pdQ_snoc c t m P (by simpa using h),Rat.mul_assoc]
theorem pdQ_ne : ∀ (m:List (List Rat)) (P:List Nat),(∀ (i p:Nat) (r:List Rat),P[i]? = some p→m[i]? = some r→r.getD p 0≠0)→pdQ m P≠0
 | [],_,_=>by simp only[pdQ];decide
 | _::_,[],_=>by rw[pdQ_nil];decide
 | r::m,p::P,h=>by
  intro e
  rw[pdQ]at e
  rcases Rat.mul_eq_zero.1 e with e|e
  ·exact h 0 p r rfl rfl e
  ·exact pdQ_ne m P (fun i q s h1 h2=>h (i+1) q s (by simpa using h1) (by simpa using h2)) e
structure DetF (n W:Nat) (u:Rat) (D:List (List Rat)→Rat):Prop where
 sw : ∀ (m:List (List Rat)) (i k:Nat) (a b:List Rat),m.length=n→(∀ r∈m,r.length=W)→m[i]? = some a→m[k]? = some b→i≠k→D ((m.set i b).set k a) = -D m
 ad : ∀ (m:List (List Rat)) (i k:Nat) (r t:List Rat) (p f l:Rat),m.length=n→(∀ r∈m,r.length=W)→m[i]? = some r→m[k]? = some t→i≠k→l≠0→D (m.set i (comb p f l r t))=D m*(p/l)
 sc : ∀ (m:List (List Rat)) (i:Nat) (r:List Rat) (s:Rat),m.length=n→(∀ r∈m,r.length=W)→m[i]? = some r→D (m.set i (r.map (· * s)))=D m*s
 tr : ∀ m:List (List Rat),m.length=n→(∀ r∈m,r.length=W)→Tri (atQ m) n→D m=pdQ m (List.range n)*u
def sgB (b:Bool):Rat:=bif b then -1 else 1
theorem sgB_not (b:Bool):sgB (!b) = -sgB b:=by cases b<;>decide
theorem sgB_sq (b:Bool):sgB b*sgB b=1:=by
 cases b
 ·exact Rat.mul_one 1
 ·show (-1:Rat) * -1=1
  grind
theorem one_powQ : ∀ n:Nat,(1:Rat)^n=1
 | 0=>Rat.pow_zero 1
 | n+1=>by rw[Rat.pow_succ,one_powQ n,Rat.mul_one]
theorem pow_neQ {l:Rat} (h:l≠0) : ∀ n:Nat,l^n≠0
 | 0=>by rw[Rat.pow_zero];decide
 | n+1=>by
  rw[Rat.pow_succ]
  intro e
  rcases Rat.mul_eq_zero.1 e with e|e
  ·exact pow_neQ h n e
  ·exact h e
theorem mul_cancelQ {a b c:Rat} (h:c≠0) (e:a*c=b*c):a=b:=by
 have h1:=Rat.mul_inv_cancel c h
 have:a*c*c⁻¹=b*c*c⁻¹:=by rw[e]
 rwa [Rat.mul_assoc,Rat.mul_assoc,h1,Rat.mul_one,Rat.mul_one]at this
theorem set_sameL {α:Type} {l:List α} {i:Nat} {x:α} (h:l[i]? = some x):l.set i x=l:=by
 obtain ⟨h1,rfl⟩:=List.getElem?_eq_some_iff.1 h
 exact List.set_getElem_self h1
def prQ (l:List Rat):Rat:=l.foldl (· * ·) 1
theorem prQ_snoc (l:List Rat) (x:Rat):prQ (l++[x])=prQ l*x:=by rw[prQ,List.foldl_append];rfl
theorem prQ_take {l:List Rat} {i:Nat} {x:Rat} (h:l[i]? = some x):prQ (l.take (i+1))=prQ (l.take i)*x:=by
 rw[List.take_add_one,h];exact prQ_snoc _ _
theorem prQ_ne {l:List Rat} (h : ∀ x∈l,x≠0):prQ l≠0:=by
 have : ∀ (l:List Rat) (s:Rat),s≠0→(∀ x∈l,x≠0)→l.foldl (· * ·) s≠0:=by
  intro l
  induction l with
  | nil=>intro s h _;exact h
  | cons x l ih =>
   intro s hs h
   refine ih _ (fun e => ?_) fun y hy=>h y (List.mem_cons_of_mem _ hy)
   rcases Rat.mul_eq_zero.1 e with e|e
   ·exact hs e
   ·exact h x List.mem_cons_self e
 exact this l 1 (by decide) h
theorem detF_whole {n W:Nat} {u:Rat} {D:List (List Rat)→Rat} (hD:DetF n W u D) {a:List (List Rat)} (hl:a.length=n) (hw : ∀ r∈a,r.length=W):D (whole a)=D a*prQ (a.map scQ):=by
 have hwl:(whole a).length=n:=by rw[whole,List.length_map];exact hl
 have hww:=whole_len hw
 have step : ∀ k,k≤n→D ((whole a).take k++a.drop k)=D a*prQ ((a.map scQ).take k):=by
  intro k
  induction k with
  | zero =>
   intro _
   rw[List.take_zero,List.take_zero,List.nil_append,List.drop_zero]
   exact (Rat.mul_one _).symm
  | succ k ih =>
   intro hk
   obtain ⟨r,hr⟩ : ∃ r,a[k]? = some r:=⟨_,List.getElem?_eq_getElem (by omega)⟩
   have hq:(whole a)[k]? = some (r.map (· * scQ r)):=by rw[whole,List.getElem?_map,hr];rfl
   have hs:(a.map scQ)[k]? = some (scQ r):=by rw[List.getElem?_map,hr];rfl
   have ht:((whole a).take k).length=k:=by rw[List.length_take];omega
   have hat:((whole a).take k++a.drop k)[k]? = some r:=by
    rw[List.getElem?_append_right (by omega),ht,Nat.sub_self,List.getElem?_drop];exact hr
   have hst:((whole a).take k++a.drop k).set k (r.map (· * scQ r))=(whole a).take (k+1)++a.drop (k+1):=by
    rw[List.set_append_right _ _ (by omega),ht,Nat.sub_self,List.drop_eq_getElem_cons (show k<a.length by omega),List.set_cons_zero,List.take_add_one,hq,List.append_assoc]
    rfl
   rw[prQ_take hs,←hst,hD.sc _ k r (scQ r) (by rw[List.length_append,ht,List.length_drop];omega) (fun q hq => ?_) hat,ih (by omega),Rat.mul_assoc]
   rcases List.mem_append.1 hq with h|h
   ·exact hww q (List.mem_of_mem_take h)
   ·exact hw q (List.mem_of_mem_drop h)
 have:=step n (Nat.le_refl n)
 rw[List.take_of_length_le (by omega),List.drop_of_length_le (by omega),List.append_nil,List.take_of_length_le (by rw[List.length_map];omega)]at this
 exact this
structure Elm (m0:List (List Rat)) (K W cols:Nat) (m:List (List Rat)) (P:List Nat) (c:Nat) (odd:Bool) (l:Rat):Prop where
 ech:Ech m W c P
 len:m.length=m0.length
 cc:c≤cols
 l0:l≠0
 ker : ∀ X,Ker m X↔Ker m0 X
 ms:Ms (6^P.length*K) m
 bl:Bt (6^P.length*K) l
 dt : ∀ (u:Rat) (D:List (List Rat)→Rat),DetF m0.length W u D→D m*l=sgB odd*D m0*pdQ m P*l^(m0.length-P.length)
theorem Elm.start {m0:List (List Rat)} {K W cols:Nat} (h : ∀ r∈m0,r.length=W) (hb:Ms K m0):Elm m0 K W cols m0 [] 0 false 1 :=
 ⟨Ech.start h,rfl,Nat.zero_le _,by decide,fun _=>Iff.rfl,by simpa using hb,Bt.one _,fun u D _=>by rw[pdQ_nil,one_powQ,Rat.mul_one,Rat.mul_one,Rat.mul_one];exact (Rat.one_mul _).symm⟩
section
variable {m0 m:List (List Rat)} {K W cols c:Nat} {P:List Nat} {odd:Bool} {l:Rat}
theorem Elm.skip (h:Elm m0 K W cols m P c odd l) (hc:c<cols) (hz : ∀ (i:Nat) (r:List Rat),P.length≤i→m[i]? = some r→r.getD c 0=0):Elm m0 K W cols m P (c+1) odd l :=
 ⟨h.ech.skip hz,h.len,hc,h.l0,h.ker,h.ms,h.bl,h.dt⟩
theorem Elm.swap {i k:Nat} {a b:List Rat} (h:Elm m0 K W cols m P c odd l) (hi:m[i]? = some a) (hk:m[k]? = some b) (h1:P.length≤i) (h2:P.length≤k) (hn:i≠k):Elm m0 K W cols ((m.set i b).set k a) P c (!odd) l :=
 ⟨h.ech.swap hi hk h1 h2,by simpa using h.len,h.cc,h.l0,fun X=>(ker_swap hi hk X).trans (h.ker X),fun r hr=>by
  rcases mem_set_of hr with rfl|⟨j,_,hj⟩
  ·exact h.ms.at hi
  ·rcases mem_set_of (List.mem_of_getElem? hj) with rfl|⟨q,_,hq⟩
   ·exact h.ms.at hk
   ·exact h.ms.at hq,h.bl,fun u D hD=>by
  rw[hD.sw m i k a b h.len h.ech.lr hi hk hn,sgB_not,pdQ_set _ _ _ _ h2,pdQ_set _ _ _ _ h1,Rat.neg_mul,h.dt u D hD,Rat.neg_mul,Rat.neg_mul,Rat.neg_mul]⟩
structure Swp (m0:List (List Rat)) (K W cols:Nat) (P:List Nat) (c:Nat) (odd:Bool) (l:Rat) (t:List Rat) (m:List (List Rat)) (i:Nat):Prop where
 ech:Ech m W c P
 len:m.length=m0.length
 cc:c<cols
 l0:l≠0
 ker : ∀ X,Ker m X↔Ker m0 X
 ht:m[P.length]? = some t
 nt:t.getD c 0≠0
 lo : ∀ q r,q<i→m[q]? = some r→Bs (5*(6^P.length*K)+1) r
 hi : ∀ q r,i≤q→m[q]? = some r→Bs (6^P.length*K) r
 bt:Bs (6^P.length*K) t
 bl:Bt (6^P.length*K) l
 z : ∀ q r,P.length<q→q<i→m[q]? = some r→r.getD c 0=0
 dt : ∀ (u:Rat) (D:List (List Rat)→Rat),DetF m0.length W u D→D m*l*l^(i-P.length-1)=sgB odd*D m0*pdQ m P*l^(m0.length-P.length)*t.getD c 0^(i-P.length-1)
theorem Elm.swp {t:List Rat} (h:Elm m0 K W cols m P c odd l) (hc:c<cols) (ht:m[P.length]? = some t) (hn:t.getD c 0≠0):Swp m0 K W cols P c odd l t m (P.length+1) :=
 ⟨h.ech,h.len,hc,h.l0,h.ker,ht,hn,fun q r _ hr=>(h.ms.at hr).le (by omega),fun q r _ hr=>h.ms.at hr,h.ms.at ht,h.bl,fun q r h1 h2 _=>absurd h1 (by omega),fun u D hD=>by
  rw[show P.length+1-P.length-1=0 by omega,Rat.pow_zero,Rat.pow_zero,Rat.mul_one,Rat.mul_one]
  exact h.dt u D hD⟩
theorem Swp.step {t r:List Rat} {i:Nat} (h:Swp m0 K W cols P c odd l t m i) (hi:P.length<i) (hr:m[i]? = some r):Swp m0 K W cols P c odd l t (m.set i (comb (t.getD c 0) (r.getD c 0) l r t)) (i+1):=by
 have hil:=(List.getElem?_eq_some_iff.1 hr).1
 have hl:r.length=t.length:=by rw[h.ech.lr r (List.mem_of_getElem? hr),h.ech.lr t (List.mem_of_getElem? h.ht)]
 have hg : ∀ j,(comb (t.getD c 0) (r.getD c 0) l r t).getD j 0=(r.getD j 0*t.getD c 0-t.getD j 0*r.getD c 0)/l:=comb_getD hl
 have hat : ∀ (q:Nat) (x:List Rat),(m.set i (comb (t.getD c 0) (r.getD c 0) l r t))[q]? = some x→(q=i∧x=comb (t.getD c 0) (r.getD c 0) l r t)∨(q≠i∧m[q]? = some x):=fun q x hx=>by
  rw[List.getElem?_set]at hx
  by_cases e:i=q
  ·rw[if_pos e,if_pos hil]at hx
   exact Or.inl ⟨e.symm,(Option.some.inj hx).symm⟩
  ·rw[if_neg e]at hx
   exact Or.inr ⟨Ne.symm e,hx⟩
 have hbr:=h.hi i r (Nat.le_refl i) hr
 have htc:Bt (6^P.length*K) (t.getD c 0):=by
  have:Ms (6^P.length*K) [t]:=fun x hx=>by obtain rfl:=List.mem_singleton.1 hx;exact h.bt
  exact this.getD 0 c
 have hrc:Bt (6^P.length*K) (r.getD c 0):=by
  have:Ms (6^P.length*K) [r]:=fun x hx=>by obtain rfl:=List.mem_singleton.1 hx;exact hbr
  exact this.getD 0 c
 have hz0 : ∀ j,j≤c→(comb (t.getD c 0) (r.getD c 0) l r t).getD j 0=0:=fun j hj=>by
  rw[hg]
  by_cases e:j=c
  ·subst e;rw[Rat.div_def];grind
  ·rw[h.ech.zr i r (by omega) hr j (by omega),h.ech.zr P.length t (Nat.le_refl _) h.ht j (by omega),Rat.div_def];grind
 refine ⟨⟨fun x hx => ?_,by simpa using h.ech.pl,h.ech.inc,h.ech.pb,fun q p x hp hx => ?_,fun q x hq hx j hj => ?_⟩,by simpa using h.len,h.cc,h.l0,fun X=>(ker_sweep hr h.ht (by omega) hl h.nt h.l0 X).trans (h.ker X),?_,h.nt,fun q x hq hx => ?_,fun q x hq hx => ?_,h.bt,h.bl,fun q x h1 h2 hx => ?_,fun u D hD => ?_⟩
 ·rcases mem_set_of hx with rfl|⟨j,_,hj⟩
  ·rw[comb_len hl];exact h.ech.lr r (List.mem_of_getElem? hr)
  ·exact h.ech.lr x (List.mem_of_getElem? hj)
 ·have hql:=(List.getElem?_eq_some_iff.1 hp).1
  rcases hat q x hx with ⟨rfl,_⟩|⟨_,hx⟩
  ·omega
  ·exact h.ech.nz q p x hp hx
 ·rcases hat q x hx with ⟨rfl,rfl⟩|⟨_,hx⟩
  ·exact hz0 j (by omega)
  ·exact h.ech.zr q x hq hx j hj
 ·rw[List.getElem?_set,if_neg (by omega)];exact h.ht
 ·rcases hat q x hx with ⟨rfl,rfl⟩|⟨hne,hx⟩
  ·exact hbr.comb h.bt htc hrc h.bl
  ·exact h.lo q x (by omega) hx
 ·rcases hat q x hx with ⟨rfl,rfl⟩|⟨hne,hx⟩
  ·omega
  ·exact h.hi q x (by omega) hx
 ·rcases hat q x hx with ⟨rfl,rfl⟩|⟨hne,hx⟩
  ·exact hz0 c (Nat.le_refl c)
  ·exact h.z q x h1 (by omega) hx
 ·have hd:=h.dt u D hD
  have hdl:=Rat.div_mul_cancel h.l0 (a:=t.getD c 0)
  rw[hD.ad m i P.length r t _ _ l h.len h.ech.lr hr h.ht (by omega) h.l0,pdQ_set _ _ _ _ (by omega),show i+1-P.length-1=(i-P.length-1)+1 by omega,Rat.pow_succ,Rat.pow_succ]
  rw[show D m*(t.getD c 0/l)*l*(l^(i-P.length-1)*l)=D m*l*l^(i-P.length-1)*(t.getD c 0/l*l) by grind,hd,hdl,Rat.mul_assoc]
theorem pow6 (hK:1≤K) (p:Nat):5*(6^p*K)+1≤6^(p+1)*K:=by
 have h1:1≤6^p*K:=Nat.mul_pos (Nat.pow_pos (by omega)) hK
 have e:6^(p+1)*K=6*(6^p*K):=by rw[Nat.pow_succ,Nat.mul_comm (6^p) 6,Nat.mul_assoc]
 omega
theorem pow6le {p n B:Nat} (h:6^n*K≤B) (hp:p≤n):6^p*K≤B :=
 Nat.le_trans (Nat.mul_le_mul_right K (Nat.pow_le_pow_right (by omega) hp)) h
theorem Swp.done {t:List Rat} {i:Nat} (hK:1≤K) (h:Swp m0 K W cols P c odd l t m i) (hi:i=m.length):Elm m0 K W cols m (P++[c]) (c+1) odd (t.getD c 0):=by
 have e:(P++[c]).length=P.length+1:=by simp
 have h6:=pow6 hK P.length
 refine ⟨h.ech.pivot h.ht h.nt fun q r hq hr=>h.z q r hq (hi ▸ (List.getElem?_eq_some_iff.1 hr).1) hr,h.len,h.cc,h.nt,h.ker,?_,?_,fun u D hD => ?_⟩
 ·rw[e]
  intro r hr
  obtain ⟨q,hq⟩:=List.getElem?_of_mem hr
  exact (h.lo q r (hi ▸ (List.getElem?_eq_some_iff.1 hq).1) hq).le h6
 ·rw[e]
  have:Ms (6^P.length*K) [t]:=fun x hx=>by obtain rfl:=List.mem_singleton.1 hx;exact h.bt
  exact (this.getD 0 c).le (by omega)
 ·have hd:=h.dt u D hD
  have hpl:=(List.getElem?_eq_some_iff.1 h.ht).1
  have hlen:=h.len
  rw[pdQ_snoc c t m P h.ht,e]
  rw[hi,hlen,show m0.length-P.length=(m0.length-P.length-1)+1 by omega,Rat.pow_succ,Nat.add_sub_cancel]at hd
  rw[show m0.length-(P.length+1)=m0.length-P.length-1 by omega]
  have hp:=pow_neQ h.l0 (m0.length-P.length-1)
  generalize l^(m0.length-P.length-1)=x at *
  generalize t.getD c 0=p at *
  generalize p^(m0.length-P.length-1)=y at *
  have h0:=h.l0
  have h1:D m=sgB odd*D m0*pdQ m P*y:=mul_cancelQ (c:=l*x) (fun e=>by
   rcases Rat.mul_eq_zero.1 e with e|e
   ·exact h0 e
   ·exact hp e) (by grind)
  rw[h1];grind
theorem Elm.det {n:Nat} {u:Rat} {D:List (List Rat)→Rat} (h:Elm m0 K n n m P c odd l) (hml:m0.length=n) (hP:P.length=n) (hD:DetF n n u D):u*l=sgB odd*D m0:=by
 subst hml
 have hc:c=m0.length:=by have:=h.ech.le;have:=h.cc;omega
 have hd:=h.dt u D hD
 have hlen:=h.len
 subst hc
 have hPr:P=List.range m0.length:=by
  refine List.ext_getElem? fun i => ?_
  by_cases hi:i<m0.length
  ·obtain ⟨q,hq⟩ : ∃ q,P[i]? = some q:=⟨_,List.getElem?_eq_getElem (by omega)⟩
   rw[hq,List.getElem?_range hi,h.ech.diag hP i q hq]
  ·rw[List.getElem?_eq_none (by omega),List.getElem?_eq_none (by simp;omega)]
 have hnz:pdQ m P≠0:=pdQ_ne m P fun i p r h1 h2=>(h.ech.nz i p r h1 h2).1
 have ht:=hD.tr m hlen h.ech.lr (h.ech.tri fun i hi=>by rw[hPr,List.getElem?_range hi])
 rw[hP,Nat.sub_self,Rat.pow_zero,Rat.mul_one,ht,←hPr]at hd
 exact mul_cancelQ hnz (by grind)
theorem Elm.det0 {n:Nat} {u:Rat} {D:List (List Rat)→Rat} (h:Elm m0 K n n m P c odd l) (hml:m0.length=n) (hP:P.length<n) (hend:n≤c∨n≤P.length) (hD:DetF n n u D):D m0=0:=by
 subst hml
 have hc:c=m0.length:=by have:=h.cc;omega
 have hd:=h.dt u D hD
 have hlen:=h.len
 subst hc
 have hnz:pdQ m P≠0:=pdQ_ne m P fun i p r h1 h2=>(h.ech.nz i p r h1 h2).1
 obtain ⟨r,hr⟩ : ∃ r,m[P.length]? = some r:=⟨_,List.getElem?_eq_getElem (by omega)⟩
 have hz:r.map (· * 0)=r:=by
  refine List.ext_getElem? fun j => ?_
  rw[List.getElem?_map]
  by_cases hj:j<r.length
  ·have h1:=h.ech.zr P.length r (Nat.le_refl _) hr j (by rw[h.ech.lr r (List.mem_of_getElem? hr)]at hj;exact hj)
   rw[List.getD_eq_getElem?_getD,List.getElem?_eq_getElem hj,Option.getD_some]at h1
   rw[List.getElem?_eq_getElem hj,Option.map_some,Rat.mul_zero,h1]
  ·rw[List.getElem?_eq_none (by omega)];rfl
 have h1:=hD.sc m P.length r 0 hlen h.ech.lr hr
 rw[hz,Rat.mul_zero,set_sameL hr]at h1
 rw[h1,Rat.zero_mul]at hd
 have h2:=pow_neQ h.l0 (m0.length-P.length)
 have h3:=sgB_sq odd
 have h4:sgB odd*D m0=0:=by
  rcases Rat.mul_eq_zero.1 hd.symm with e|e
  ·rcases Rat.mul_eq_zero.1 e with e|e
   ·exact e
   ·exact absurd e hnz
  ·exact absurd e h2
 grind
end
def bsQ (c:Nat) (l:Rat):List (List Rat)→Nat→List Rat
 | [],_=>[]
 | r::m,i=>(r.getD c 0*l-dotQ (r.drop (i+1)) (bsQ c l m (i+1)))/r.getD i 0::bsQ c l m (i+1)
theorem bsQ_len (c:Nat) (l:Rat) : ∀ (m:List (List Rat)) (i:Nat),(bsQ c l m i).length=m.length
 | [],_=>rfl
 | r::m,i=>by rw[bsQ,List.length_cons,bsQ_len c l m (i+1),List.length_cons]
theorem drop_getD (r:List Rat) (i:Nat) (h:i<r.length):r.drop i=r.getD i 0::r.drop (i+1):=by
 rw[List.drop_eq_getElem_cons h,List.getD_eq_getElem?_getD,List.getElem?_eq_getElem h];rfl
theorem bsQ_row (c:Nat) (l:Rat) : ∀ (m:List (List Rat)) (i k:Nat) (r:List Rat),m[k]? = some r→i+k<r.length→r.getD (i+k) 0≠0→dotQ (r.drop (i+k)) ((bsQ c l m i).drop k)=r.getD c 0*l
 | q::m,i,0,r,h,hl,h0=>by
  obtain rfl:q=r:=by simpa using h
  rw[Nat.add_zero]at hl h0 ⊢
  rw[drop_getD q i hl,bsQ,List.drop_zero,dotQ]
  have:=Rat.div_mul_cancel h0 (a:=q.getD c 0*l-dotQ (q.drop (i+1)) (bsQ c l m (i+1)))
  grind
 | q::m,i,k+1,r,h,hl,h0=>by
  rw[bsQ,List.drop_succ_cons,show i+(k+1)=i+1+k by omega]
  exact bsQ_row c l m (i+1) k r (by simpa using h) (by omega) (by rw[show i+1+k=i+(k+1) by omega];exact h0)
 | [],_,_,_,h,_,_=>by simp at h
theorem dotQ_dropz : ∀ (i:Nat) (r x:List Rat),(∀ j,j<i→r.getD j 0=0)→dotQ r x=dotQ (r.drop i) (x.drop i)
 | 0,_,_,_=>rfl
 | i+1,[],x,_=>by simp [dotQ]
 | i+1,r::rs,[],_=>by rw[dotQ_nil,List.drop_nil,dotQ_nil]
 | i+1,r::rs,x::xs,h=>by
  have h0:r=0:=by simpa using h 0 (by omega)
  rw[dotQ,h0,Rat.zero_mul,Rat.zero_add,List.drop_succ_cons,List.drop_succ_cons]
  exact dotQ_dropz i rs xs fun j hj=>by simpa using h (j+1) (by omega)
theorem bs_sol {c n:Nat} {l:Rat} {m:List (List Rat)} (hn : ∀ r∈m,n≤r.length) (hm:m.length=n) (ht:Tri (atQ m) n) (r:List Rat) (hr:r∈m):dotQ r (bsQ c l m 0)=r.getD c 0*l:=by
 obtain ⟨k,hk⟩:=List.getElem?_of_mem hr
 have hkl:=(List.getElem?_eq_some_iff.1 hk).1
 have h1:=ht k (by omega)
 have h2:=bsQ_row c l m 0 k r hk (by have:=hn r hr;omega) (by rw[Nat.zero_add,←atQ_eq hk];exact h1.1)
 rw[dotQ_dropz k r _ fun j hj=>by rw[←atQ_eq hk];exact h1.2 j hj,←h2,Nat.zero_add]
def clB (S n:Nat):Nat→Nat
 | 0=>0
 | t+1=>3*S+n*(S+clB S n t+1)
theorem clB_mono (S n:Nat) : ∀ t,clB S n t≤clB S n (t+1)
 | 0=>Nat.zero_le _
 | t+1=>by
  rw[clB,clB]
  have:=Nat.mul_le_mul_left n (show S+clB S n t+1≤S+clB S n (t+1)+1 by have:=clB_mono S n t;omega)
  omega
theorem clB_le (S n:Nat) {t u:Nat} (h:t≤u):clB S n t≤clB S n u:=by
 obtain ⟨d,rfl⟩:=Nat.exists_eq_add_of_le h
 induction d with
 | zero=>exact Nat.le_refl _
 | succ d ih=>exact Nat.le_trans (ih (by omega)) (clB_mono S n (t+d))
theorem dot_bt {k l:Nat} {a b:List Rat} (ha:Bs k a) (hb:Bs l b) {n:Nat} (hn:b.length≤n):Bt (n*(k+l+1)) (dotQ a b):=by
 rw[dotQ_comm]
 exact (hb.dot ha).le (Nat.le_trans (Nat.mul_le_mul_right _ hn) (Nat.le_of_eq (by rw[Nat.add_comm l k])))
theorem bsQ_bs {S n c:Nat} {l:Rat} (hl:Bt S l) : ∀ (m:List (List Rat)) (i:Nat),m.length≤n→Ms S m→Bs (clB S n m.length) (bsQ c l m i)
 | [],_,_,_=>fun x hx=>by cases hx
 | r::m,i,hn,hm=>by
  have ih:=bsQ_bs (c:=c) (n:=n) hl m (i+1) (by rw[List.length_cons]at hn;omega) (fun q hq=>hm q (List.mem_cons_of_mem _ hq))
  have hr:Bs S r:=hm r List.mem_cons_self
  have hg : ∀ j,Bt S (r.getD j 0):=fun j=>by
   have:Ms S [r]:=fun x hx=>by obtain rfl:=List.mem_singleton.1 hx;exact hr
   exact this.getD 0 j
  have h1:=dot_bt (k:=S) (a:=r.drop (i+1)) (fun x hx=>hr x (List.mem_of_mem_drop hx)) ih (n:=n-1) (by rw[bsQ_len];rw[List.length_cons]at hn;omega)
  have h2:=(((hg c).mul hl).subL h1).divL (hg i)
  rw[List.length_cons]
  intro x hx
  rw[bsQ]at hx
  rcases List.mem_cons.1 hx with rfl|hx
  ·refine h2.le ?_
   rw[clB]
   obtain ⟨k,rfl⟩ : ∃ k,n=k+1:=⟨n-1,by rw[List.length_cons]at hn;omega⟩
   have e:=Nat.succ_mul k (S+clB S (k+1) m.length+1)
   rw[Nat.succ_eq_add_one]at e
   rw[Nat.add_sub_cancel]
   omega
  ·exact (ih x hx).le (clB_mono S n m.length)
end Go.Eng

namespace Go.Eng
open F
attribute [local irreducible] AKM CmpP Req OpP UnP ConvP RdP LdR StR MkR LenP AppR AppN CpyR RowP SnR Bds SlS CallP CalP FinP pw LdM GetM SetM PutM MkM AppM SnM FlP CallR
set_option maxHeartbeats 16000000
variable {L:Lib}
def cw (n:Nat) (v:List Rat):List (Option Rat):=List.replicate (n-v.length) none++v.map some
theorem cw_len {n:Nat} {v:List Rat} (h:v.length≤n):(cw n v).length=n:=by simp [cw];omega
theorem cw_nil (n:Nat):cw n []=List.replicate n none:=by simp [cw]
theorem cw_at {n s:Nat} {v:List Rat} {x:Rat} (h:v[s]? = some x):(cw n v)[n-v.length+s]? = some (some x):=by
 rw[cw,List.getElem?_append_right (by simp),List.length_replicate,Nat.add_sub_cancel_left,List.getElem?_map,h];rfl
theorem cw_set {n:Nat} {v:List Rat} {x:Rat} (h:v.length<n):(cw n v).set (n-(v.length+1)) (some x)=cw n (x::v):=by
 obtain ⟨k,hk⟩ : ∃ k,n-v.length=k+1:=⟨n-v.length-1,by omega⟩
 have e:n-(v.length+1)=k:=by omega
 simp only[cw,hk,List.length_cons,e]
 rw[List.replicate_succ',List.append_assoc,List.set_append_right _ _ (by simp),List.length_replicate,Nat.sub_self]
 rfl
theorem cw_full {n:Nat} {v:List Rat} (h:v.length=n):(cw n v).map eO=v.map eQ:=by
 simp [cw,h,Function.comp_def]
theorem getD_someH {l:List Rat} {i:Nat} (h:i<l.length):l[i]? = some (l.getD i 0):=by
 rw[List.getD_eq_getElem?_getD,List.getElem?_eq_getElem h];rfl
theorem ev_column (N:MatGLib L) (q q':Bool) (m:List (List Rat)) (n W c S:Nat) (l:Rat) (hm:m.length=n) (hW : ∀ r∈m,r.length=W) (hn:1≤n∧n≤1000) (hnW:n≤W) (hc:c<W) (hW2:W≤100000)
  (hd : ∀ (k:Nat) (r:List Rat),m[k]? = some r→r.getD k 0≠0) (hms:Ms S m) (hl:Bt S l) (hB:clB S n n<2199023255552):Ev L 234 [.sl q (eMq q' m),.int .i64 c,.agg (eQ l)] (.sl false ((bsQ c l m 0).map eQ)):=by
 have hS:S<2199023255552:=by
  have:=clB_le S n (show 1≤n by omega)
  rw[clB]at this
  omega
 refine Ev.x N.linear_column rfl rfl ?_
 (repeat' (first|(refine LenP.go ?_;conv=>whnf)|(refine AKM.x ?_;conv=>whnf)))
 refine MkR.go (enc:=eO) none n rfl (by omega) (by omega) ?_
 (conv=>whnf)
 (repeat' (first|(refine OpP.sub ?_ ?_;omega;conv=>whnf)|(refine LenP.go ?_;conv=>whnf)))
 rw[hm]
 refine AKM.loop1 (fun k=>k) (fun (k:Nat)=>k≤n) (fun k=>[(8,.int .i64 ((k:Int)-1))]) (fun k=>[(13,13,.rw 3 ((cw n (bsQ c l (m.drop k) k)).map eO))]) [] [] n (by first|exact (by (conv=>whnf);exact ⟨rfl,rfl,rfl⟩)|(rw[List.drop_of_length_le (by omega),bsQ,cw_nil];exact (by (conv=>whnf);exact ⟨rfl,rfl,rfl⟩))) (by omega) ?_
 intro k p1 kh
 rcases k with _|k
 ·clear kh
  rw[List.drop_zero,cw_full (by rw[bsQ_len];exact hm)]
  (repeat' (first|(refine CmpP.go (fun hc => ?_) (fun hc => ?_)<;>first|(exfalso;omega)|(conv=>whnf))|(refine AKM.x ?_;conv=>whnf)))
  refine SnR.all (enc:=eQ) (fun _=>rfl) rfl (by rw[bsQ_len];omega) ?_
  (conv=>whnf)
  exact FinP.go rfl (by simp only[Clean,true_and];exact cl_eQs _)
 ·obtain ⟨r,hr⟩ : ∃ r,m[k]? = some r:=⟨_,List.getElem?_eq_getElem (by omega)⟩
  have hr':m[(k:Int).toNat]? = some r:=hr
  have hrl:=hW r (List.mem_of_getElem? hr)
  have e1:((k+1:Nat):Int)-1=k:=by omega
  have hv:bsQ c l (m.drop k) k=(r.getD c 0*l-dotQ (r.drop (k+1)) (bsQ c l (m.drop (k+1)) (k+1)))/r.getD k 0::bsQ c l (m.drop (k+1)) (k+1):=by
   obtain ⟨h1,h2⟩:=List.getElem?_eq_some_iff.1 hr
   rw[List.drop_eq_getElem_cons h1,bsQ,h2]
  have hvl:(bsQ c l (m.drop (k+1)) (k+1)).length=n-(k+1):=by rw[bsQ_len,List.length_drop,hm]
  have hvb:Bs (clB S n (n-(k+1))) (bsQ c l (m.drop (k+1)) (k+1)):=by
   have:=bsQ_bs (c:=c) (n:=n) hl (m.drop (k+1)) (k+1) (by rw[List.length_drop];omega) (fun r hr=>hms r (List.mem_of_mem_drop hr))
   rwa [List.length_drop,hm]at this
  have hB2:clB S n (n-(k+1)+1)≤clB S n n:=clB_le S n (by omega)
  rw[clB]at hB2
  have hrb:=hms.at hr
  have hrc:r[(c:Int).toNat]? = some (r.getD c 0):=getD_someH (by omega)
  have hrk:r[(k:Int).toNat]? = some (r.getD k 0):=getD_someH (by omega)
  have hrk0:=hd k r hr
  have bc:=hrb.at hrc
  have bk:=hrb.at hrk
  have hM:=ev_mulQ N.toRatGLib bc hl hS hS
  generalize hrcv:r.getD c 0=rc at *
  generalize hrkv:r.getD k 0=rk at *
  generalize bsQ c l (m.drop (k+1)) (k+1)=v at *
  generalize clB S n (n-(k+1))=X at *
  rw[e1]
  (repeat' (first|(refine CmpP.go (fun hc => ?_) (fun hc => ?_)<;>first|(exfalso;omega)|(conv=>whnf))|(refine OpP.add ?_ ?_;omega;conv=>whnf)|(refine RdP.at (by assumption) ?_ rfl ?_;omega;conv=>whnf)|(refine AKM.x ?_;conv=>whnf)|(refine CallP.go (hM) ?_;conv=>whnf)))
  refine AKM.loop2 (fun s _=>n-s) (fun (s:Nat) (acc:Rat)=>k+1+s≤n∧acc=rc*l-dotQ ((r.drop (k+1)).take s) (v.take s)) (fun s _=>[(10,.int .i64 ((k+1+s:Nat):Int))]) (fun _ acc=>[(9,9,.bx (eQ acc))]) [] [] 0 (rc*l) (by (conv=>whnf);exact ⟨rfl,rfl,rfl⟩) ⟨by omega,by simp only[List.take_zero,dotQ];grind⟩ ?_
  intro s acc ⟨p2,p3⟩ sh
  have hab:Bt (2*S+(n-(k+1))*(S+X+1)+1) acc:=by
   rw[p3]
   have h1:=dot_bt (k:=S) (l:=X) (a:=(r.drop (k+1)).take s) (b:=v.take s) (n:=n-(k+1)) (fun x hx=>hrb x (List.mem_of_mem_drop (List.mem_of_mem_take hx))) (hvb.take s) (by rw[List.length_take];omega)
   exact ((bc.mul hl).subL h1).le (by omega)
  have hmul:=Nat.mul_le_mul_right (S+X+1) (show n-(k+1)+1≤n by omega)
  rw[Nat.add_mul,Nat.one_mul]at hmul
  have hX:X<2199023255552:=by
   have:=Nat.le_mul_of_pos_left (S+X+1) (show 0<n by omega)
   omega
  by_cases hs:k+1+s<n
  ·obtain ⟨x,hx⟩ : ∃ x,v[s]? = some x:=⟨_,List.getElem?_eq_getElem (by omega)⟩
   obtain ⟨y,hy⟩ : ∃ y,r[k+1+s]? = some y:=⟨_,List.getElem?_eq_getElem (by omega)⟩
   have hy':r[((k+1+s:Nat):Int).toNat]? = some y:=hy
   have hyd:(r.drop (k+1))[s]? = some y:=by rw[List.getElem?_drop];exact hy
   have hca:=cw_at (n:=n) hx
   rw[hvl,show n-(n-(k+1))+s=k+1+s by omega]at hca
   have hcl:=cw_len (n:=n) (v:=v) (by omega)
   have by':=hrb.at hy
   have bx:=hvb.at hx
   have hM2:=ev_mulQ N.toRatGLib by' bx hS hX
   have hSu:=ev_subQ N.toRatHLib hab (by'.mul bx) (by omega) (by
    have:=Nat.le_mul_of_pos_left (S+X+1) (show 0<n-(k+1) by omega)
    omega)
   have hdt:=dotQ_take hyd hx
   generalize cw n v=C at *
   (repeat' (first|(refine CmpP.go (fun hc => ?_) (fun hc => ?_)<;>first|(exfalso;omega)|(conv=>whnf))|(refine Req.go ?_ ?_;omega;conv=>whnf)|(refine LenP.go ?_;conv=>whnf)|(refine RdP.at (by assumption) ?_ rfl ?_;omega;conv=>whnf)|(refine AKM.x ?_;conv=>whnf)))
   refine LdR.at (enc:=eO) (e:=some x) (by rw[Nat.zero_add];exact hca) rfl ?_
   (conv=>whnf)
   (repeat' (first|(refine OpP.add ?_ ?_;omega;conv=>whnf)|(refine CallP.go (hM2) ?_;conv=>whnf)|(refine CallP.go (hSu) ?_;conv=>whnf)))
   refine AKM.back [] (by (conv=>whnf);exact ⟨rfl,rfl,rfl⟩) (sh (s+1) (acc-y*x) (by omega) ⟨by omega,?_⟩)
   rw[hdt,p3];grind
  ·obtain rfl:s=n-(k+1):=by omega
   clear sh
   have hdt:acc=rc*l-dotQ (r.drop (k+1)) v:=by
    rw[p3,dotQ_comm,dotQ_all hvl,dotQ_comm]
   have hD:=ev_divQ N.toRatGLib hab bk (by omega) hS hrk0
   have hcs:=cw_set (n:=n) (v:=v) (x:=acc/rk) (by omega)
   rw[hvl,show n-(n-(k+1)+1)=k by omega]at hcs
   have hcl:=cw_len (n:=n) (v:=v) (by omega)
   rw[←hdt]at hv
   rw[←hv]at hcs
   generalize cw n v=C at *
   (repeat' (first|(refine CmpP.go (fun hc => ?_) (fun hc => ?_)<;>first|(exfalso;omega)|(conv=>whnf))|(refine Req.go ?_ ?_;omega;conv=>whnf)|(refine LenP.go ?_;conv=>whnf)|(refine RdP.at (by assumption) ?_ rfl ?_;omega;conv=>whnf)|(refine AKM.x ?_;conv=>whnf)|(refine CallP.go (hD) ?_;conv=>whnf)))
   refine StR.nat (enc:=eO) (some (acc/rk)) rfl (fun e=>by cases e<;>rfl) (by omega) ?_
   (conv=>whnf)
   rw[hcs]
   (repeat' (refine OpP.sub ?_ ?_;omega;conv=>whnf))
   exact AKM.back [] (by (conv=>whnf);exact ⟨rfl,rfl,rfl⟩) (kh k (by omega) (by omega))
end Go.Eng

namespace Go.Eng
variable {L:Lib}
def noRet:ACode→Bool
 | .ret=>false
 | .dr c _ _=>noRet c
 | .scope c=>noRet c
 | .seq a b=>noRet a&&noRet b
 | .cond _ a b=>noRet a&&noRet b
 | .block _ c=>noRet c
 | .loop c=>noRet c
 | _=>true
def noRetI:It→Bool
 | .code c=>noRet c
 | .lp c=>noRet c
 | _=>true
theorem exitA_app {id:Nat} {kk:List It} : ∀ {l l':List It},exitA id l=some l'→exitA id (l++kk)=some (l'++kk)
 | [],_,h=>by cases h
 | .blk i::l,l',h=>by
  simp only[List.cons_append,exitA]at h ⊢
  split at h
  ·rename_i e;rw[if_pos e];cases h;rfl
  ·rename_i e;rw[if_neg e];exact exitA_app h
 | .code c::l,l',h=>by
  simp only[List.cons_append,exitA]at h ⊢
  exact exitA_app h
 | .drp a b::l,l',h=>by
  simp only[List.cons_append,exitA]at h ⊢
  exact exitA_app h
 | .lp c::l,l',h=>by
  simp only[List.cons_append,exitA]at h ⊢
  exact exitA_app h
theorem exitA_all {id:Nat} {p:It→Bool} : ∀ {l l':List It},exitA id l=some l'→l.all p=true→l'.all p=true
 | [],_,h,_=>by cases h
 | .blk i::l,l',h,ha=>by
  simp only[exitA]at h
  simp only[List.all_cons,Bool.and_eq_true]at ha
  split at h
  ·cases h;exact ha.2
  ·exact exitA_all h ha.2
 | .code c::l,l',h,ha=>by
  simp only[exitA]at h
  simp only[List.all_cons,Bool.and_eq_true]at ha
  exact exitA_all h ha.2
 | .drp a b::l,l',h,ha=>by
  simp only[exitA]at h
  simp only[List.all_cons,Bool.and_eq_true]at ha
  exact exitA_all h ha.2
 | .lp c::l,l',h,ha=>by
  simp only[exitA]at h
  simp only[List.all_cons,Bool.and_eq_true]at ha
  exact exitA_all h ha.2
theorem run_app {C:Cl} {kk:List It} {m:Nat} {st1 st2:St} (hk:run C m kk st1=some st2) : ∀ (n:Nat) (l:List It) (st:St),l.all noRetI=true→run C n l st=some st1→run C (n+m) (l++kk) st=some st2
 | 0,_,_,_,h=>by cases h
 | n+1,[],st,_,h=>by
  simp only[run,Option.some.injEq]at h
  subst h
  exact run_mono (C:=C) (C':=C) ⟨fun _ _ _ h=>h,fun _ _ _ _ h=>h,rfl⟩ (by omega) hk
 | n+1,.blk i::l,st,ha,h=>by
  simp only[List.all_cons,Bool.and_eq_true]at ha
  rw[show n+1+m=n+m+1 by omega]
  simp only[List.cons_append,run]at h ⊢
  exact run_app hk n l st ha.2 h
 | n+1,.drp ts ss::l,st,ha,h=>by
  simp only[List.all_cons,Bool.and_eq_true]at ha
  rw[show n+1+m=n+m+1 by omega]
  simp only[List.cons_append,run]at h ⊢
  exact run_app hk n l _ ha.2 h
 | n+1,.lp c::l,st,ha,h=>by
  rw[show n+1+m=n+m+1 by omega]
  simp only[List.cons_append,run]at h ⊢
  exact run_app hk n (.code c :: .lp c::l) st (by simp only[List.all_cons,noRetI,Bool.and_eq_true]at ha ⊢;exact ⟨ha.1,ha.1,ha.2⟩) h
 | n+1,.code c::l,st,ha,h=>by
  simp only[List.all_cons,noRetI,Bool.and_eq_true]at ha
  obtain ⟨h1,h2⟩:=ha
  rw[show n+1+m=n+m+1 by omega]
  cases c with
  | ret=>cases h1
  | skip =>
   simp only[List.cons_append,run]at h ⊢
   exact run_app hk n l st h2 h
  | ops o d =>
   simp only[List.cons_append,run]at h ⊢
   cases hs:stepL C o st with
   | none=>rw[hs]at h;cases h
   | some s'=>rw[hs]at h;exact run_app hk n l s' h2 h
  | dr c ts ss =>
   simp only[List.cons_append,run]at h ⊢
   exact run_app hk n (.code c :: .drp ts ss::l) st (by simp only[List.all_cons,noRetI,Bool.and_eq_true];exact ⟨h1,trivial,h2⟩) h
  | scope c =>
   simp only[List.cons_append,run]at h ⊢
   exact run_app hk n (.code c::l) st (by simp only[List.all_cons,noRetI,Bool.and_eq_true];exact ⟨h1,h2⟩) h
  | seq a b =>
   simp only[noRet,Bool.and_eq_true]at h1
   simp only[List.cons_append,run]at h ⊢
   exact run_app hk n (.code a :: .code b::l) st (by simp only[List.all_cons,noRetI,Bool.and_eq_true];exact ⟨h1.1,h1.2,h2⟩) h
  | cond x a b =>
   simp only[noRet,Bool.and_eq_true]at h1
   simp only[List.cons_append,run]at h ⊢
   split at h
   ·exact run_app hk n (.code a::l) st (by simp only[List.all_cons,noRetI,Bool.and_eq_true];exact ⟨h1.1,h2⟩) h
   ·exact run_app hk n (.code b::l) st (by simp only[List.all_cons,noRetI,Bool.and_eq_true];exact ⟨h1.2,h2⟩) h
   ·cases h
  | block i c =>
   simp only[List.cons_append,run]at h ⊢
   exact run_app hk n (.code c :: .blk i::l) st (by simp only[List.all_cons,noRetI,Bool.and_eq_true];exact ⟨h1,trivial,h2⟩) h
  | loop c =>
   simp only[List.cons_append,run]at h ⊢
   exact run_app hk n (.code c :: .lp c::l) st (by simp only[List.all_cons,noRetI,Bool.and_eq_true];exact ⟨h1,h1,h2⟩) h
  | exit i =>
   simp only[List.cons_append,run]at h ⊢
   cases he:exitA i l with
   | none=>rw[he]at h;cases h
   | some l' =>
    rw[he]at h
    rw[exitA_app he]
    exact run_app hk n l' st (exitA_all he h2) h
theorem AKM.cut {l kk:List It} {tm:Tm} {M:Mem} {Q:Tm→Mem→Prop} (hn:l.all noRetI=true) (h:AKM L l tm M (fun tm M=>AKM L kk tm M Q)):AKM L (l++kk) tm M Q:=by
 intro σ st hr
 obtain ⟨n,c,st1,h1,σ1,tm1,M1,hr1,h2⟩:=h σ st hr
 obtain ⟨m,c2,st2,h3,h4⟩:=h2 σ1 st1 hr1
 obtain ⟨c3,g1,g2⟩ : ∃ c3,(clAt L c).le (clAt L c3)∧(clAt L c2).le (clAt L c3):=⟨max c c2,cl_le (Nat.le_max_left _ _),cl_le (Nat.le_max_right _ _)⟩
 exact ⟨n+m,c3,st2,run_app (run_mono g2 (Nat.le_refl _) h3) n l st hn (run_mono g1 (Nat.le_refl _) h1),h4⟩
structure Held (p:Prop):Prop where
 go ::
 out:p
theorem AKM.meet3 {α β γ:Type} {l kk:List It} {tm:Tm} {M:Mem} {Q:Tm→Mem→Prop} (P:α→β→γ→Prop) (vs:α→β→γ→Tm) (Ms:α→β→γ→Mem) (ts:List Nat) (hn:l.all noRetI=true)
  (hr : ∀ a b c,P a b c→AKM L kk (vs a b c++tdel ts tm) (Ms a b c++M) Q)
  (h:(∀ a b c,P a b c→AKM L kk (vs a b c++tdel ts tm) (Ms a b c++M) Q)→AKM L l tm M (fun tm M=>Held (AKM L kk tm M Q))):AKM L (l++kk) tm M Q:=by
 refine AKM.cut hn ?_
 intro σ st hs
 obtain ⟨n,c,st1,h1,σ1,tm1,M1,hr1,h2⟩:=h hr σ st hs
 exact ⟨n,c,st1,h1,σ1,tm1,M1,hr1,h2.out⟩
end Go.Eng

namespace Go.Eng
open F
attribute [local irreducible] AKM CmpP Req OpP UnP ConvP RdP LdR StR MkR LenP AppR AppN CpyR RowP SnR Bds SlS CallP CalP FinP pw LdM GetM SetM PutM MkM AppM SnM FlP CallR
set_option maxHeartbeats 16000000
variable {L:Lib}
theorem dg_oneH:dg 1=[1]:=by rw[dg_pos (by decide)];simp [dg_zero]
theorem ev_mulDen (N:RatGLib L) {s:Rat} {a l d:Nat} (q:Bool) (hs:Bt a s) (hd:d≤2^l) (ha:a<2199023255552) (hl:l<2199023255552):Ev L 99 [.agg (eQ s),.agg [.bool false,.sl false ((dg d).map e32),.sl q [[.int .u32 1]]]] (.agg (eQ (s*((d:Nat):Rat)))):=by
 have hd2:Bt l ((d:Nat):Rat):=⟨by simpa using hd,by simpa using Nat.one_le_two_pow⟩
 have e:=qv_of ((d:Nat):Rat)
 have h1:=(hd2.sm hl).1
 have h2:=(hd2.sm hl).2
 rw[Rat.num_natCast,Rat.den_natCast,Int.natAbs_natCast,show decide ((d:Int)<0)=false by simp,dg_oneH]at e
 rw[Rat.num_natCast,Int.natAbs_natCast]at h1
 rw[Rat.den_natCast,dg_oneH]at h2
 have h:=ev_rational_Mul N 68719476736 (by omega) (decide (s.num<0)) false false false false q _ _ (dg d) [1] (hs.sm ha).1 (hs.sm ha).2 h1 h2
 rw[qv_of,e]at h
 exact h
theorem vw_lt {N i k:Nat} (hk:k<N) : ∀ t,t∈(List.range N).set i k→t<N:=fun t ht=>by
 rcases List.mem_or_eq_of_mem_set ht with h|h
 ·exact List.mem_range.1 h
 ·omega
theorem mxR_at {z:Nat} {m:List (List Rat)} {i:Nat} {r:List Rat} (h:m[i]? = some r):(mxR z eQ m)[i]? = some (some (z,r.map eQ)):=by
 rw[mxR,List.getElem?_map,h];rfl
theorem mxR_swap {z:Nat} {m:List (List Rat)} {i j:Nat} {a b:List Rat}:((mxR z eQ m).set i (some (z,b.map eQ))).set j (some (z,a.map eQ))=mxR z eQ ((m.set i b).set j a):=by
 simp only[mxR,List.map_set]
theorem GetM.at' {R:List (Option (Nat × List (List AV)))} {e z:Nat} {es:List (List AV)} {K:Nat→List (List AV)→Prop} (h:R[e]? = some (some (z,es))) (hk:K z es):GetM R e K:=by
 unfold GetM
 exact ⟨z,es,h,hk⟩
theorem set_same {α:Type} {l:List α} {i:Nat} {x:α} (h:l[i]? = some x):l.set i x=l:=by
 obtain ⟨h1,rfl⟩:=List.getElem?_eq_some_iff.1 h
 exact List.set_getElem_self h1
theorem mix_start {a b:List Rat} {c:Nat} (hl:a.length=b.length) (h : ∀ j,j<c→a.getD j 0=0∧b.getD j 0=0):a.take c++b.drop c=b:=by
 have e:a.take c=b.take c:=by
  refine List.ext_getElem? fun j => ?_
  rw[List.getElem?_take,List.getElem?_take]
  by_cases hj:j<c
  ·rw[if_pos hj,if_pos hj]
   obtain ⟨h1,h2⟩:=h j hj
   rw[List.getD_eq_getElem?_getD]at h1 h2
   by_cases hl2:j<a.length
   ·rw[List.getElem?_eq_getElem hl2,List.getElem?_eq_getElem (by omega)]at *
    simp only[Option.getD_some]at h1 h2
    rw[h1,h2]
   ·rw[List.getElem?_eq_none (by omega),List.getElem?_eq_none (by omega)]
  ·rw[if_neg hj,if_neg hj]
 rw[e,List.take_append_drop]
theorem mix_at {a b:List Rat} {j:Nat} {x:Rat} (hl:a.length=b.length) (hx:b[j]? = some x):(a.take j++b.drop j)[j]? = some x:=by
 have h1:=(List.getElem?_eq_some_iff.1 hx).1
 have ht:(a.take j).length=j:=by rw[List.length_take];omega
 rw[List.getElem?_append_right (by omega),ht,Nat.sub_self,List.getElem?_drop]
 exact hx
theorem mix_set {a b:List Rat} {j:Nat} {y:Rat} (hl:a.length=b.length) (hy:a[j]? = some y):(a.take j++b.drop j).set j y=a.take (j+1)++b.drop (j+1):=by
 have h1:=(List.getElem?_eq_some_iff.1 hy).1
 have ht:(a.take j).length=j:=by rw[List.length_take];omega
 rw[List.set_append_right _ _ (by omega),ht,Nat.sub_self,List.drop_eq_getElem_cons (by omega),List.set_cons_zero,take_snoc' hy,List.append_assoc]
 rfl
theorem join_nil : ∀ a:List (List Rat),join2 a (List.replicate a.length [])=a
 | []=>rfl
 | r::a=>by
  have:=join_nil a
  simp only[join2]at this
  simp [join2,List.replicate_succ,this]
theorem elm_rank {m0 m a b:List (List Rat)} {K n w c:Nat} {P:List Nat} {odd:Bool} {l:Rat} (hE:Elm m0 K (n+w) n m P c odd l) (hs:Scl m0 (join2 a b)) (hl:a.length=b.length) (ha : ∀ r∈a,r.length=n) (hal:a.length=n) (hend:n≤c∨n≤P.length):P.length=n↔NS n a:=by
 have hech:Ech m (n+w) n P:=by
  have hc:=hE.cc
  rcases hend with h|h
  ·obtain rfl:c=n:=by omega
   exact hE.ech
  ·have h1:=hE.ech.pl
   have h2:=hE.len
   have h3:=hs.1
   simp only[join2,List.length_zipWith]at h3
   exact hE.ech.wide (by omega) hc
 exact rank_ns hech (fun X=>(hE.ker X).trans (hs.ker X)) hl ha
end Go.Eng

namespace Go.Eng
open F
attribute [local irreducible] AKM CmpP Req OpP UnP ConvP RdP LdR StR MkR LenP AppR AppN CpyR RowP SnR Bds SlS CallP CalP FinP pw LdM GetM SetM PutM MkM AppM SnM FlP CallR
set_option maxHeartbeats 16000000
variable {L:Lib}
theorem det_whole (N:MatGLib L) (q q':Bool) (a:List (List Rat)) (n WW k:Nat) (hal:a.length=n) (haw : ∀ r∈a,r.length=WW) (hn:1≤n∧n≤52) (hW:WW≤104) (hk:1≤k) (hab:Ms k a) (hKB:3^WW*k≤1000000000000) {kk:List It} {Q:Tm→Mem→Prop}
  (hfin:AKM L kk ([(5,.row 231019 0 3 0 n),(4,.row 231016 0 1 0 n)]++[(1000+26,.sl q (eMq q' a)),(1000+23,.bool false),(1000+4,.int .i64 n),(1000+2,.ptr 2 0 0 0),(1000+0,.sl q (eMq q' a))]) ([(231016,231016,.mx (mxR 3 eQ (whole a))),(231019,231019,.rw 3 ((a.map scQ).map eQ))]++[(2,2,.bx [.bool false,.nil,.nil])]) Q) :
  AKM L (.lp linear_wholeRows.l1 :: .blk 0::kk) ([(22,.int .i64 0),(21,.int .i64 n),(20,.sl q (eMq q' a)),(5,.row 231019 0 3 0 n),(4,.row 231016 0 1 0 n)]++[(1000+26,.sl q (eMq q' a)),(1000+23,.bool false),(1000+4,.int .i64 n),(1000+2,.ptr 2 0 0 0),(1000+0,.sl q (eMq q' a))]) ([(231016,231016,.mx (List.replicate n none)),(231019,231019,.rw 3 ((List.replicate n none).map eO))]++[(2,2,.bx [.bool false,.nil,.nil])]) Q:=by
 have hI:=ev_rational_Of N.toRatGLib 1 (by omega)
 refine AKM.cut (l:=[_,_]) rfl ?_
 refine AKM.loop1 (fun i=>n-i) (fun (i:Nat)=>i≤n) (fun i=>[(22,.int .i64 i)]) (fun i=>[(231016,231016,.mx (mz (whole a) n i)),(231019,231019,.rw 3 ((fillO ((a.map scQ).take i) n).map eO))]) [] [] 0 (by first|exact (by (conv=>whnf);exact ⟨rfl,rfl,rfl⟩)|(rw[←mz_zero (whole a),List.take_zero,←fillO_nil];exact (by (conv=>whnf);exact ⟨rfl,rfl,rfl⟩))) (by omega) ?_
 intro i p1 ih
 have hzl:=mz_len (Q:=whole a) p1
 by_cases hi:i<n
 ·obtain ⟨r,hr⟩ : ∃ r,a[i]? = some r:=⟨_,List.getElem?_eq_getElem (by omega)⟩
  have hr':a[(i:Int).toNat]? = some r:=hr
  have hrl:=haw r (List.mem_of_getElem? hr)
  have hrb:=hab.at hr
  have hst:=mz_set (Q:=whole a) (i:=i) (n:=n) (row:=r.map (· * scQ r)) (by simp [whole,hr]) hi
  have hsca:(a.map scQ)[i]? = some (scQ r):=by simp [hr]
  generalize mz (whole a) n i=R0 at *
  have hsb : ∀ j,Bt (3^WW*k) (scQ (r.take j)):=fun j=>(scQ_bt hk (hrb.take j)).le (by
   have:3^(r.take j).length≤3^WW:=Nat.pow_le_pow_right (by omega) (by rw[List.length_take];omega)
   have:=Nat.mul_le_mul_right k this
   omega)
  have hkK:k≤3^WW*k:=Nat.le_mul_of_pos_left k (Nat.pow_pos (by omega))
  have hscr:=hsb WW
  rw[List.take_of_length_le (by omega)]at hscr
  generalize 3^WW*k=K at *
  (repeat' (first|(refine CmpP.go (fun hc => ?_) (fun hc => ?_)<;>first|(exfalso;omega)|(conv=>whnf))|(refine LenP.go ?_;conv=>whnf)|(refine RdP.at (by assumption) ?_ rfl ?_;omega;conv=>whnf)|(refine AKM.x ?_;conv=>whnf)|(refine CallP.go (hI) ?_;conv=>whnf)))
  try cases hr.symm.trans hv
  refine AKM.loop2 (fun j _=>WW-j) (fun (j:Nat) (s:Rat)=>j≤WW∧s=scQ (r.take j)) (fun j _=>[(30,.int .i64 j)]) (fun _ s=>[(231008,231008,.bx (eQ s))]) [] [] 0 ((1:Int):Rat) (by (conv=>whnf);exact ⟨rfl,rfl,rfl⟩) ⟨by omega,by rw[List.take_zero];rfl⟩ ?_
  intro j s ⟨p2,p3⟩ jh
  by_cases hj:j<WW
  ·obtain ⟨x,hx⟩ : ∃ x,r[j]? = some x:=⟨_,List.getElem?_eq_getElem (by omega)⟩
   have hx':r[(j:Int).toNat]? = some x:=hx
   have hsj:Bt K s:=by rw[p3];exact hsb j
   have bx:=hrb.at hx
   have hM1:=ev_mulQ N.toRatGLib hsj bx (by omega) (by omega)
   have hM2:=ev_mulDen N.toRatGLib true hsj (hsj.mul bx).2 (by omega) (by omega)
   have hnx:scQ (r.take (j+1))=s*(((s*x).den:Nat):Rat):=by rw[take_snoc' hx,scQ_snoc,←p3];rfl
   (repeat' (first|(refine CmpP.go (fun hc => ?_) (fun hc => ?_)<;>first|(exfalso;omega)|(conv=>whnf))|(refine OpP.add ?_ ?_;omega;conv=>whnf)|(refine RdP.at (by assumption) ?_ rfl ?_;omega;conv=>whnf)|(refine SnR.e1 rfl ?_;conv=>whnf)|(refine AKM.x ?_;conv=>whnf)|(refine CallP.go (hM1) ?_;conv=>whnf)|(refine CallP.go (hM2) ?_;conv=>whnf)))
   exact AKM.back [] (by (conv=>whnf);exact ⟨rfl,rfl,rfl⟩) (jh (j+1) _ (by omega) ⟨by omega,hnx.symm⟩)
  have ej:j=WW:=by omega
  clear jh
  rw[List.take_of_length_le (by omega)]at p3
  subst p3
  (repeat' (first|(refine CmpP.go (fun hc => ?_) (fun hc => ?_)<;>first|(exfalso;omega)|(conv=>whnf))|(refine LenP.go ?_;conv=>whnf)|(refine AKM.x ?_;conv=>whnf)))
  rw[hrl]
  refine MkR.go (enc:=eO) none WW rfl (by omega) (by omega) ?_
  (conv=>whnf)
  (repeat' (first|(refine Req.go ?_ ?_;omega;conv=>whnf)|fail))
  refine Req.go (by simp) ?_
  refine SetM.fz (i:=i) (by omega) (by omega) ?_
  (conv=>whnf)
  (repeat' (refine LenP.go ?_;conv=>whnf))
  refine AKM.loop1 (fun j=>WW-j) (fun (j:Nat)=>j≤WW) (fun j=>[(53,.int .i64 j)]) (fun j=>[(231016,231016,.mx (R0.set i (some (3,(fillO ((r.map (· * scQ r)).take j) WW).map eO))))]) [] [] 0 (by first|exact (by (conv=>whnf);exact ⟨rfl,rfl,rfl⟩)|(rw[List.take_zero,←fillO_nil];exact (by (conv=>whnf);exact ⟨rfl,rfl,rfl⟩))) (by omega) ?_
  intro j r2 jh
  have htj:((r.map (· * scQ r)).take j).length=j:=by rw[List.length_take,List.length_map];omega
  have hlf:=fillO_len (l:=(r.map (· * scQ r)).take j) (m:=WW) (by omega)
  by_cases hj:j<WW
  ·obtain ⟨x,hx⟩ : ∃ x,r[j]? = some x:=⟨_,List.getElem?_eq_getElem (by omega)⟩
   have hx':r[(j:Int).toNat]? = some x:=hx
   have bx:=hrb.at hx
   have hM1:=ev_mulQ N.toRatGLib bx hscr (by omega) (by omega)
   have hs:=fillO_set (l:=(r.map (· * scQ r)).take j) (m:=WW) (x:=x*scQ r) (by omega)
   rw[htj,←take_snoc' (show (r.map (· * scQ r))[j]? = some (x*scQ r) by rw[List.getElem?_map,hx];rfl)]at hs
   generalize fillO ((r.map (· * scQ r)).take j) WW=W0 at *
   (repeat' (first|(refine CmpP.go (fun hc => ?_) (fun hc => ?_)<;>first|(exfalso;omega)|(conv=>whnf))|(refine Req.go ?_ ?_;omega;conv=>whnf)|(refine RdP.at (by assumption) ?_ rfl ?_;omega;conv=>whnf)|(refine AKM.x ?_;conv=>whnf)))
   refine LdM.st (by omega) (by omega) ?_
   (conv=>whnf)
   (repeat' (refine CallP.go (hM1) ?_;conv=>whnf))
   refine Req.go (by rw[List.length_map];omega) ?_
   (conv=>whnf)
   skip
   refine GetM.st (by omega) (by omega) ?_
   (conv=>whnf)
   refine StR.nat (enc:=eO) (some (x*scQ r)) rfl (fun e=>by cases e<;>rfl) (by omega) ?_
   (conv=>whnf)
   rw[hs]
   refine PutM.st (by omega) (by rw[List.length_map,List.length_map,←hs,List.length_set]) ?_
   (conv=>whnf)
   (repeat' (refine OpP.add ?_ ?_;omega;conv=>whnf))
   exact AKM.back [] (by (conv=>whnf);exact ⟨rfl,rfl,rfl⟩) (jh (j+1) (by omega) (by omega))
  have ej:j=WW:=by omega
  clear jh
  rw[List.take_of_length_le (by rw[List.length_map];omega),fillO_full (by rw[List.length_map];exact hrl),hst]
  have hti:((a.map scQ).take i).length=i:=by rw[List.length_take,List.length_map];omega
  have hfi:=fillO_len (l:=(a.map scQ).take i) (m:=n) (by omega)
  have hfs:=fillO_set (l:=(a.map scQ).take i) (m:=n) (x:=scQ r) (by omega)
  rw[hti,←take_snoc' hsca]at hfs
  generalize fillO ((a.map scQ).take i) n=W1 at *
  (repeat' (first|(refine CmpP.go (fun hc => ?_) (fun hc => ?_)<;>first|(exfalso;omega)|(conv=>whnf))|(refine Req.go ?_ ?_;omega;conv=>whnf)|(refine AKM.x ?_;conv=>whnf)))
  refine StR.nat (enc:=eO) (some (scQ r)) rfl (fun e=>by cases e<;>rfl) (by omega) ?_
  (conv=>whnf)
  rw[hfs]
  (repeat' (refine OpP.add ?_ ?_;omega;conv=>whnf))
  exact AKM.back [] (by (conv=>whnf);exact ⟨rfl,rfl,rfl⟩) (ih (i+1) (by omega) (by omega))
 have ei:i=n:=by omega
 clear ih
 rw[ei,mz_full (by simp [whole,hal]),List.take_of_length_le (by rw[List.length_map];omega),fillO_full (by rw[List.length_map];exact hal)]
 (repeat' (first|(refine CmpP.go (fun hc => ?_) (fun hc => ?_)<;>first|(exfalso;omega)|(conv=>whnf))|(refine AKM.x ?_;conv=>whnf)))
 exact AKM.back [] (by (conv=>whnf);exact ⟨rfl,rfl,rfl⟩) hfin
theorem det_sweep (N:MatGLib L)  {m0 m1:List (List Rat)} {n cw WW K0 c:Nat} {P:List Nat} {o:Bool} {l:Rat} {rp:List Rat} (sc:List Rat) (hm0l:m0.length=n) (hn:1≤n∧n≤52) (hW:cw≤WW) (hW2:WW≤104) (hK0:1≤K0) (hB:6^n*K0≤1000000000000) (hP:P.length<n) (hcn:c<cw) (hS:Swp m0 K0 WW cw P c o l rp m1 (P.length+1)) {kk:List It} {Q:Tm→Mem→Prop}
  (hfin : ∀ m2,Swp m0 K0 WW cw P c o l rp m2 n→AKM L kk ([(9,.bool o),(8,.int .i64 c),(7,.int .i64 (P.length:Nat)),(10,.ptr 233010 0 0 0),(5,.ptr 233005 0 0 0),(0,.row 231016 0 1 0 n),(0+1,.int .i64 cw)]++[(1000+32,.int .i64 n),(1000+31,.row 231016 0 1 0 n),(1000+6,.row 231019 0 3 0 n),(1000+5,.row 231016 0 1 0 n),(1000+4,.int .i64 n),(1000+2,.ptr 2 0 0 0)]) ([(231016,231016,.mx (mxR 3 eQ m2)),(233010,233010,.bx (eQ l)),(233005,233005,.bx [.bool false,.nil,.nil])]++[(231019,231019,.rw 3 (sc.map eQ)),(2,2,.bx [.bool false,.nil,.nil])]) Q) :
  AKM L (.lp linear_eliminate.l4 :: .blk 6::kk) ([(12,.int .i64 ((P.length+1:Nat):Int)),(9,.bool o),(8,.int .i64 c),(7,.int .i64 (P.length:Nat)),(10,.ptr 233010 0 0 0),(5,.ptr 233005 0 0 0),(0,.row 231016 0 1 0 n),(0+1,.int .i64 cw)]++[(1000+32,.int .i64 n),(1000+31,.row 231016 0 1 0 n),(1000+6,.row 231019 0 3 0 n),(1000+5,.row 231016 0 1 0 n),(1000+4,.int .i64 n),(1000+2,.ptr 2 0 0 0)]) ([(231016,231016,.mx (mxR 3 eQ m1)),(233010,233010,.bx (eQ l)),(233005,233005,.bx [.bool false,.nil,.nil])]++[(231019,231019,.rw 3 (sc.map eQ)),(2,2,.bx [.bool false,.nil,.nil])]) Q:=by
 refine AKM.cut (l:=[_,_]) rfl ?_
 refine AKM.loop2 (fun _ i=>n-i) (fun (m:List (List Rat)) (i:Nat)=>Swp m0 K0 WW cw P c o l rp m i∧P.length+1≤i∧i≤n) (fun _ i=>[(12,.int .i64 i)]) (fun m _=>[(231016,231016,.mx (mxR 3 eQ m))]) [] [] m1 (P.length+1) (by (conv=>whnf);exact ⟨rfl,rfl,rfl⟩) ⟨hS,by omega,by omega⟩ ?_
 clear hS
 intro m2 i ⟨hS,j1,j2⟩ sh
 have hml2:=hS.len
 rw[hm0l]at hml2
 by_cases hj:i<n
 ·obtain ⟨rq,hq0⟩ : ∃ r,m2[i]? = some r:=⟨_,List.getElem?_eq_getElem (by omega)⟩
  have ht0':=hS.ht
  have hrql:=hS.ech.lr rq (List.mem_of_getElem? hq0)
  have htl:=hS.ech.lr rp (List.mem_of_getElem? ht0')
  (repeat' (first|(refine CmpP.go (fun hc => ?_) (fun hc => ?_)<;>first|(exfalso;omega)|(conv=>whnf))|(refine Req.go ?_ ?_;omega;conv=>whnf)|(refine LdM.nat ?_ (fun r hr => ?_);omega;conv=>whnf)|(refine AKM.x ?_;conv=>whnf)))
  rename_i rA hrA
  cases hq0.symm.trans hrA
  cases ht0'.symm.trans hr
  rw[show 0+((i:Nat):Int).toNat=i by omega,show 0+((P.length:Nat):Int).toNat=P.length by omega,show (List.map eQ rq).length=WW by rw[List.length_map];exact hrql,show (List.map eQ rp).length=WW by rw[List.length_map];exact htl]
  have hqc0:rq[c]? = some (rq.getD c 0):=getD_someH (by omega)
  refine CalP.walk 1000 N.linear_sweep rfl rfl ?_
  have hpc0:rp[c]? = some (rp.getD c 0):=getD_someH (by omega)
  have hst2:=hS.step (by omega) hq0
  have hcl:(comb (rp.getD c 0) (rq.getD c 0) l rq rp).length=WW:=by rw[comb_len (by omega)];exact hrql
  have hcg:=fun j=>comb_getD (p:=rp.getD c 0) (f:=rq.getD c 0) (l:=l) (r:=rq) (t:=rp) (by omega) j
  have hz1:=fun j (h:j<c)=>hS.ech.zr i rq (by omega) hq0 j h
  have hz2:=fun j (h:j<c)=>hS.ech.zr P.length rp (Nat.le_refl _) ht0' j h
  have hbq:=hS.hi i rq (Nat.le_refl i) hq0
  have hbp:=hS.bt
  have hbl:=hS.bl
  have hl0:=hS.l0
  have hbpc:=hbp.at hpc0
  have hbqc:=hbq.at hqc0
  generalize hpv:rp.getD c 0=pv at *
  generalize hfv:rq.getD c 0=fv at *
  generalize hcb:comb pv fv l rq rp=cb at *
  have hmix0:cb.take c++rq.drop c=rq:=mix_start (by omega) fun j hj=>⟨by rw[hcg,hz1 j hj,hz2 j hj,Rat.zero_mul,Rat.zero_mul,Rat.sub_eq_add_neg,Rat.neg_zero,Rat.add_zero,Rat.div_def,Rat.zero_mul],hz1 j hj⟩
  have hRi:=mxR_at (z:=3) hq0
  have hRp:=mxR_at (z:=3) ht0'
  have hRn:(mxR 3 eQ m2).length=n:=by simp only[mxR,List.length_map];omega
  have hRf:(mxR 3 eQ m2).set i (some (3,cb.map eQ))=mxR 3 eQ (m2.set i cb):=by simp only[mxR,List.map_set]
  generalize mxR 3 eQ m2=R2 at *
  have hR0:R2.set i (some (3,rq.map eQ))=R2:=set_same hRi
  (repeat' (first|(refine Req.go ?_ ?_;omega;conv=>whnf)|(refine AKM.x ?_;conv=>whnf)))
  refine GetM.at' hRp ?_
  (conv=>whnf)
  (repeat' (first|(refine Req.go ?_ ?_;omega;conv=>whnf)|(refine LdR.nat ?_ (fun _=>rfl) (fun v hv => ?_);omega;conv=>whnf)))
  cases hpc0.symm.trans hv
  skip
  refine GetM.at' hRi ?_
  (conv=>whnf)
  (repeat' (refine LdR.nat ?_ (fun _=>rfl) (fun v hv => ?_);omega;conv=>whnf))
  cases hqc0.symm.trans hv
  skip
  have hp7:=Nat.le_trans (pow6 hK0 P.length) (pow6le hB (show P.length+1≤n by omega))
  generalize 6^P.length*K0=BB at *
  refine AKM.loop1 (fun j=>WW-j) (fun (j:Nat)=>c≤j∧j≤WW) (fun j=>[(10,.int .i64 j)]) (fun j=>[(231016,231016,.mx (R2.set i (some (3,(cb.take j++rq.drop j).map eQ))))]) [] [] c (by first|exact (by (conv=>whnf);exact ⟨rfl,rfl,rfl⟩)|(rw[hmix0,hR0];exact (by (conv=>whnf);exact ⟨rfl,rfl,rfl⟩))) ⟨by omega,by omega⟩ ?_
  intro j ⟨k1,k2⟩ jh
  have hml:(cb.take j++rq.drop j).length=WW:=by rw[List.length_append,List.length_take,List.length_drop];omega
  by_cases hjn:j<WW
  ·obtain ⟨x,hx⟩ : ∃ x,rq[j]? = some x:=⟨_,List.getElem?_eq_getElem (by omega)⟩
   obtain ⟨y,hy⟩ : ∃ y,rp[j]? = some y:=⟨_,List.getElem?_eq_getElem (by omega)⟩
   have hcj:cb[j]? = some ((x*pv-y*fv)/l):=by rw[←hcb];exact comb_at hx hy
   have hma:=mix_at (a:=cb) (by omega) hx
   have hms:=mix_set (b:=rq) (by omega) hcj
   have bx:=hbq.at hx
   have by':=hbp.at hy
   have hM1:=ev_mulQ N.toRatGLib bx hbpc (by omega) (by omega)
   have hM2:=ev_mulQ N.toRatGLib by' hbqc (by omega) (by omega)
   have hSu:=ev_subQ N.toRatHLib (bx.mul hbpc) (by'.mul hbqc) (by omega) (by omega)
   have hDi:=ev_divQ N.toRatGLib ((bx.mul hbpc).subL (by'.mul hbqc)) hbl (by omega) (by omega) hl0
   have hRp2:(R2.set i (some (3,(cb.take j++rq.drop j).map eQ)))[P.length]? = some (some (3,rp.map eQ)):=by rw[List.getElem?_set,if_neg (by omega)];exact hRp
   generalize cb.take j++rq.drop j=cm at *
   (repeat' (first|(refine CmpP.go (fun hc => ?_) (fun hc => ?_)<;>first|(exfalso;omega)|(conv=>whnf))|(refine Req.go ?_ ?_;omega;conv=>whnf)|(refine AKM.x ?_;conv=>whnf)))
   refine GetM.st rfl (by omega) ?_
   (conv=>whnf)
   (repeat' (refine LdR.nat ?_ (fun _=>rfl) (fun v hv => ?_);omega;conv=>whnf))
   cases hma.symm.trans hv
   (repeat' (first|(refine Req.go ?_ ?_;omega;conv=>whnf)|(refine CallP.go (hM1) ?_;conv=>whnf)))
   refine GetM.at' hRp2 ?_
   (conv=>whnf)
   (repeat' (refine LdR.nat ?_ (fun _=>rfl) (fun v hv => ?_);omega;conv=>whnf))
   cases hy.symm.trans hv
   (repeat' (first|(refine CallP.go (hM2) ?_;conv=>whnf)|(refine CallP.go (hSu) ?_;conv=>whnf)))
   (repeat' (first|(refine Req.go ?_ ?_;omega;conv=>whnf)|(refine CallP.go (hDi) ?_;conv=>whnf)))
   refine GetM.st rfl (by omega) ?_
   (conv=>whnf)
   refine StR.nat (enc:=eQ) ((x*pv-y*fv)/l) rfl (fun _=>rfl) (by omega) ?_
   rw[hms]
   (conv=>whnf)
   refine PutM.st rfl (by rw[List.length_map,List.length_map,←hms,List.length_set]) ?_
   (conv=>whnf)
   (repeat' (refine OpP.add ?_ ?_;omega;conv=>whnf))
   exact AKM.back [] (by (conv=>whnf);exact ⟨rfl,rfl,rfl⟩) (jh (j+1) (by omega) ⟨by omega,by omega⟩)
  ·have ej:j=WW:=by omega
   clear jh
   rw[List.take_of_length_le (by omega),List.drop_of_length_le (by omega),List.append_nil,hRf]
   (repeat' (first|(refine CmpP.go (fun hc => ?_) (fun hc => ?_)<;>first|(exfalso;omega)|(conv=>whnf))|(refine AKM.x ?_;conv=>whnf)))
   refine ⟨rfl,_,rfl,?_⟩
   (conv=>whnf)
   (repeat' (refine OpP.add ?_ ?_;omega;conv=>whnf))
   exact AKM.back [] (by (conv=>whnf);exact ⟨rfl,rfl,rfl⟩) (sh (m2.set i cb) (i+1) (by omega) ⟨hst2,by omega,by omega⟩)
 ·have ei:i=n:=by omega
  clear sh
  rw[ei]at hS
  (repeat' (first|(refine CmpP.go (fun hc => ?_) (fun hc => ?_)<;>first|(exfalso;omega)|(conv=>whnf))|(refine AKM.x ?_;conv=>whnf)))
  exact AKM.back [] (by (conv=>whnf);exact ⟨rfl,rfl,rfl⟩) (hfin m2 hS)
theorem cl_dt (x:Rat):Clean (.tup [.agg (eQ x),.int .i64 0]):=by
 simp only[Clean,CleanL,and_true,true_and]
 exact ⟨cl_dig _,cl_dig _⟩
theorem ev_Determinant (N:MatGLib L) (q q':Bool) (a:List (List Rat)) (n k:Nat) (hal:a.length=n) (haw : ∀ r∈a,r.length=n) (hn:1≤n∧n≤52) (hk:1≤k) (hab:Ms k a) (hB:6^n*(3^n*k)≤1000000000000) :
  ∃ d:Rat,Ev L 236 [.sl q (eMq q' a)] (.tup [.agg (eQ d),.int .i64 0])∧Bt 2000000000000 d∧(d≠0↔NS n a) ∧ ∀ (u:Rat) (D:List (List Rat)→Rat),DetF n n u D→D a=u*d:=by
 suffices h : ∃ v,Ev L 236 [.sl q (eMq q' a)] v ∧ ∃ d:Rat,v = .tup [.agg (eQ d),.int .i64 0]∧Bt 2000000000000 d∧(d≠0↔NS n a) ∧ ∀ (u:Rat) (D:List (List Rat)→Rat),DetF n n u D→D a=u*d by
  obtain ⟨v,h1,m,rfl,h2,h3⟩:=h
  exact ⟨m,h1,h2,h3⟩
 have hV:=ev_lValid N true q' a n n hal haw hn hn
 have hV2:=ev_lValid N q q' a n n hal haw hn hn
 obtain ⟨r0,hr0⟩ : ∃ r,a[0]? = some r:=⟨_,List.getElem?_eq_getElem (by omega)⟩
 have hr0':a[(0:Int).toNat]? = some r0:=hr0
 have hl0:=haw r0 (List.mem_of_getElem? hr0)
 have hO:=ev_rational_Of N.toRatGLib 0 (by omega)
 have hI:=ev_rational_Of N.toRatGLib 1 (by omega)
 have hKB:3^n*k≤1000000000000:=by simpa using pow6le hB (Nat.zero_le n)
 refine Ev.xE N.linear_Determinant rfl rfl ?_
 (repeat' (first|(refine CmpP.go (fun hc => ?_) (fun hc => ?_)<;>first|(exfalso;omega)|(conv=>whnf))|(refine LenP.go ?_;conv=>whnf)|(refine RdP.at (by assumption) ?_ rfl ?_;omega;conv=>whnf)|(refine AKM.x ?_;conv=>whnf)|(refine CallP.go (hV2) ?_;conv=>whnf)))
 rw[hal]
 have hW:n≤104:=by omega
 refine CalP.walk 1000 N.linear_wholeRows rfl rfl ?_
 (repeat' (first|(refine LenP.go ?_;conv=>whnf)|(refine AKM.x ?_;conv=>whnf)))
 unfold MkM
 refine ⟨⟨by omega,by omega,by simp only[roomMax];omega,by omega⟩,?_⟩
 rw[Int.toNat_natCast]
 (conv=>whnf)
 (repeat' (refine LenP.go ?_;conv=>whnf))
 rw[hal]
 refine MkR.go (enc:=eO) none n rfl (by omega) (by omega) ?_
 (conv=>whnf)
 (repeat' (refine LenP.go ?_;conv=>whnf))
 rw[hal]
 refine AKM.back [] (by (conv=>whnf);exact ⟨rfl,rfl,rfl⟩) (det_whole N q q' a n n k hal haw hn hW hk hab hKB ?_)
 (repeat' (refine AKM.x ?_;conv=>whnf))
 refine ⟨rfl,_,rfl,?_⟩
 (conv=>whnf)
 skip
 have hm0l:(whole a).length=n:=by simp [whole,hal]
 have hm0w:=whole_len haw
 have hm0b:=whole_ms hk haw hab
 have hjl:a.length=(List.replicate n ([]:List Rat)).length:=by simp [hal]
 have hm0s:Scl (whole a) (join2 a (List.replicate n [])):=by rw[←hal,join_nil];exact whole_scl a
 have hdw:=fun (u:Rat) (D:List (List Rat)→Rat) (hD:DetF n n u D)=>detF_whole hD hal haw
 have hpn:prQ (a.map scQ)≠0:=prQ_ne fun x hx=>by
  obtain ⟨r,_,rfl⟩:=List.mem_map.1 hx
  exact scQ_ne r
 have hK0:1≤3^n*k:=Nat.mul_pos (Nat.pow_pos (by omega)) hk
 generalize whole a=m0 at *
 have hscb : ∀ r∈a,Bt (3^n*k) (scQ r):=fun r hr=>(scQ_bt hk (hab r hr)).le (by rw[haw r hr];omega)
 generalize 3^n*k=K0 at *
 have hW2:=hW
 have hW:=Nat.le_refl n
 refine CalP.walkC 1000 N.linear_eliminate rfl rfl ?_
 (repeat' (first|(refine AKM.x ?_;conv=>whnf)|(refine CallP.go (hI) ?_;conv=>whnf)))
 refine AKM.loop5 (fun _ P _ _ _=>n-P.length) (fun (m:List (List Rat)) (P:List Nat) (c:Nat) (odd:Bool) (l:Rat)=>Elm m0 K0 n n m P c odd l) (fun _ P c odd _=>[(7,.int .i64 (P.length:Nat)),(8,.int .i64 c),(9,.bool odd)]) (fun m _ _ _ l=>[(231016,231016,.mx (mxR 3 eQ m)),(233010,233010,.bx (eQ l))]) [] [] m0 [] 0 false ((1:Int):Rat) (by (conv=>whnf);exact ⟨rfl,rfl,rfl⟩) (Elm.start hm0w hm0b) ?_
 intro m P c odd l hE eh
 have hml:=hE.len
 have hPl:=hE.ech.pl
 rw[hm0l]at hml
 by_cases hP:P.length<n
 ·have hp6:=pow6le hB (show P.length≤n by omega)
  (repeat' (first|(refine CmpP.go (fun hc => ?_) (fun hc => ?_)<;>first|(exfalso;omega)|(conv=>whnf))|(refine AKM.x ?_;conv=>whnf)))
  refine AKM.meet3 (l:=[_,_]) (fun (m1:List (List Rat)) (c:Nat) (o:Bool)=>Elm m0 K0 n n m1 P c o l∧(c<n → ∃ rp,m1[P.length]? = some rp∧rp.getD c 0≠0)) (fun _ c o=>[(8,.int .i64 c),(9,.bool o)]) (fun m1 _ _=>[(231016,231016,.mx (mxR 3 eQ m1))]) [17] rfl ?_ ?_
  ·clear hE hml hPl
   intro m1 c odd1 ⟨hE,hpv⟩
   have hml:=hE.len
   have hPl:=hE.ech.pl
   have hcc:=hE.cc
   rw[hm0l]at hml
   by_cases hcn:c<n
   ·obtain ⟨rp,hp0,hpn⟩:=hpv hcn
    clear hpv
    have hS:=hE.swp hcn hp0 hpn
    (repeat' (first|(refine CmpP.go (fun hc => ?_) (fun hc => ?_)<;>first|(exfalso;omega)|(conv=>whnf))|(refine OpP.add ?_ ?_;omega;conv=>whnf)|(refine AKM.x ?_;conv=>whnf)))
    refine AKM.back [] (by (conv=>whnf);exact ⟨rfl,rfl,rfl⟩) (det_sweep N  (a.map scQ) hm0l hn hW hW2 hK0 hB hP hcn hS fun m2 hS => ?_)
    have ht0':=hS.ht
    have hrpl:=hS.ech.lr rp (List.mem_of_getElem? ht0')
    have hpc0:rp[c]? = some (rp.getD c 0):=getD_someH (by omega)
    have hml2:=hS.len
    have hfin:=hS.done hK0 (by omega)
    have hPl2:(P++[c]).length=P.length+1:=by simp
    generalize rp.getD c 0=pv at hpc0 hfin
    clear hS hE hpn hp0
    (repeat' (first|(refine Req.go ?_ ?_;omega;conv=>whnf)|(refine LdM.nat ?_ (fun r hr => ?_);omega;conv=>whnf)|(refine AKM.x ?_;conv=>whnf)))
    cases ht0'.symm.trans hr
    refine Req.go (by rw[List.length_map];omega) ?_
    (conv=>whnf)
    (repeat' (first|(refine OpP.add ?_ ?_;omega;conv=>whnf)|(refine LdR.nat ?_ (fun _=>rfl) (fun v hv => ?_);omega;conv=>whnf)|(refine GetM.ati (by assumption) ?_;conv=>whnf)))
    cases hpc0.symm.trans hv
    skip
    rw[show ((P.length:Nat):Int)+1=((P++[c]).length:Nat) by rw[hPl2];omega]
    exact AKM.back [] (by (conv=>whnf);exact ⟨rfl,rfl,rfl⟩) (eh m2 (P++[c]) (c+1) _ pv (by rw[hPl2];omega) hfin)
   ·clear eh hpv
    (repeat' (first|(refine CmpP.go (fun hc => ?_) (fun hc => ?_)<;>first|(exfalso;omega)|(conv=>whnf))|(refine AKM.x ?_;conv=>whnf)))
    refine ⟨rfl,?_⟩
    (conv=>whnf)
    (repeat' (refine CmpP.go (fun hc => ?_) (fun hc => ?_)<;>first|(exfalso;omega)|(conv=>whnf)))
    have hend:n≤c∨n≤P.length:=Or.inl (by omega)
    have hrk:=elm_rank (w:=0) hE hm0s hjl haw hal hend
    (repeat' (refine CallP.go (hO) ?_;conv=>whnf))
    refine ⟨.tup [.agg (eQ 0),.int .i64 0],?_,0,rfl,Bt.zero _,⟨fun h=>absurd rfl h,fun h=>absurd (hrk.2 h) (by omega)⟩,fun u D hD=>by
     have h1:=hE.det0 hm0l hP hend hD
     rw[hdw u D hD]at h1
     rw[Rat.mul_zero]
     rcases Rat.mul_eq_zero.1 h1 with h|h
     ·exact h
     ·exact absurd h hpn⟩
    (conv=>whnf)
    exact FinP.go rfl (cl_dt 0)
  ·clear eh
   intro hmeet
   refine AKM.loop1 (fun c=>n-c) (fun (c:Nat)=>Elm m0 K0 n n m P c odd l) (fun c=>[(8,.int .i64 c)]) (fun _=>[]) [17] [] c (by (conv=>whnf);exact ⟨rfl,rfl,rfl⟩) hE ?_
   clear hE
   intro c hE ch
   have hcc:=hE.cc
   by_cases hcn:c<n
   ·(repeat' (first|(refine CmpP.go (fun hc => ?_) (fun hc => ?_)<;>first|(exfalso;omega)|(conv=>whnf))|(refine AKM.x ?_;conv=>whnf)))
    refine AKM.loop1 (fun i=>n-i) (fun (i:Nat)=>P.length≤i∧i≤n ∧ ∀ (q:Nat) (r:List Rat),P.length≤q→q<i→m[q]? = some r→r.getD c 0=0) (fun i=>[(11,.int .i64 i)]) (fun _=>[]) [] [] P.length (by (conv=>whnf);exact ⟨rfl,rfl,rfl⟩) ⟨Nat.le_refl _,by omega,fun q r h1 h2=>absurd h1 (by omega)⟩ ?_
    intro i ⟨i1,i2,i3⟩ ih
    by_cases hi:i<n
    ·obtain ⟨rp,hr0⟩ : ∃ r,m[i]? = some r:=⟨_,List.getElem?_eq_getElem (by omega)⟩
     have hrl:=hE.ech.lr rp (List.mem_of_getElem? hr0)
     have hrc0:rp[c]? = some (rp.getD c 0):=getD_someH (by omega)
     have hSg:=ev_signQ N.toRatGLib (hE.ms.at hr0 _ (List.mem_of_getElem? hrc0)) (by omega)
     have hz:=sgn_num (x:=rp.getD c 0)
     generalize hrcv:rp.getD c 0=rc at *
     generalize sgn rc.num=sg at *
     by_cases hsg:sg=0
     ·(repeat' (first|(refine CmpP.go (fun hc => ?_) (fun hc => ?_)<;>first|(exfalso;omega)|(conv=>whnf))|(refine Req.go ?_ ?_;omega;conv=>whnf)|(refine LdM.nat ?_ (fun r hr => ?_);omega;conv=>whnf)|(refine AKM.x ?_;conv=>whnf)))
      cases hr0.symm.trans hr
      refine Req.go (by rw[List.length_map];omega) ?_
      (conv=>whnf)
      (repeat' (first|(refine LdR.nat ?_ (fun _=>rfl) (fun v hv => ?_);omega;conv=>whnf)|(refine GetM.ati (by assumption) ?_;conv=>whnf)))
      cases hrc0.symm.trans hv
      (repeat' (first|(refine CmpP.go (fun hc => ?_) (fun hc => ?_)<;>first|(exfalso;omega)|(conv=>whnf))|(refine OpP.add ?_ ?_;omega;conv=>whnf)|(refine CallP.go (hSg) ?_;conv=>whnf)))
      refine AKM.back [] (by (conv=>whnf);exact ⟨rfl,rfl,rfl⟩) (ih (i+1) (by omega) ⟨by omega,by omega,fun q x h1 h2 hx => ?_⟩)
      by_cases e:q=i
      ·subst e
       cases hr0.symm.trans hx
       rw[hrcv];exact hz.1 hsg
      ·exact i3 q x h1 (by omega) hx
     ·clear ih ch
      have hnz:rc≠0:=fun e=>hsg (hz.2 e)
      (repeat' (first|(refine CmpP.go (fun hc => ?_) (fun hc => ?_)<;>first|(exfalso;omega)|(conv=>whnf))|(refine Req.go ?_ ?_;omega;conv=>whnf)|(refine LdM.nat ?_ (fun r hr => ?_);omega;conv=>whnf)|(refine AKM.x ?_;conv=>whnf)))
      cases hr0.symm.trans hr
      refine Req.go (by rw[List.length_map];omega) ?_
      (conv=>whnf)
      (repeat' (first|(refine LdR.nat ?_ (fun _=>rfl) (fun v hv => ?_);omega;conv=>whnf)|(refine GetM.ati (by assumption) ?_;conv=>whnf)))
      cases hrc0.symm.trans hv
      (repeat' (first|(refine CmpP.go (fun hc => ?_) (fun hc => ?_)<;>first|(exfalso;omega)|(conv=>whnf))|(refine Req.go ?_ ?_;omega;conv=>whnf)|(refine LdM.nat ?_ (fun r hr => ?_);omega;conv=>whnf)|(refine GetM.ati (by assumption) ?_;conv=>whnf)|(refine CallP.go (hSg) ?_;conv=>whnf)))
      ·obtain ⟨t,ht0⟩ : ∃ t,m[P.length]? = some t:=⟨_,List.getElem?_eq_getElem (by omega)⟩
       refine Req.go ⟨rfl,by simp only[mxR,List.length_map];omega⟩ ?_
       (conv=>whnf)
       (repeat' (first|(refine Req.go ?_ ?_;omega;conv=>whnf)|(refine GetM.ati (by assumption) ?_;conv=>whnf)))
       rw[show 0+((i:Nat):Int).toNat=i by omega,show 0+((P.length:Nat):Int).toNat=P.length by omega]
       refine Req.go ⟨rfl,by simp only[mxR,List.length_map,List.length_set,List.length_range];omega,vw_lt (by simp only[mxR,List.length_map];omega)⟩ ?_
       (conv=>whnf)
       skip
       have hE2:=hE.swap hr0 ht0 i1 (Nat.le_refl _) (by omega)
       have hS2:c<n → ∃ rp',((m.set i t).set P.length rp)[P.length]? = some rp'∧rp'.getD c 0≠0:=fun _=>⟨rp,by rw[List.getElem?_set,if_pos rfl,if_pos (by rw[List.length_set];omega)],by rw[hrcv];exact hnz⟩
       generalize hob:(!odd)=ob at *
       cases ob
       all_goals
        (conv=>whnf)
        skip
        refine Held.go ?_
        refine AKM.swap (k:=231016) (i:=i) (j:=P.length) rfl (mxR_at hr0) (mxR_at ht0) rfl rfl ?_
        rw[mxR_swap]
        exact AKM.back [] (by (conv=>whnf);exact ⟨rfl,rfl,rfl⟩) (hmeet _ c _ ⟨hE2,hS2⟩)
      ·have ei:i=P.length:=by omega
       exact Held.go (AKM.back [] (by (conv=>whnf);exact ⟨rfl,rfl,rfl⟩) (hmeet m c odd ⟨hE,fun _=>⟨rp,by rw[←ei];exact hr0,by rw[hrcv];exact hnz⟩⟩))
    ·have ei:i=n:=by omega
     clear ih
     (repeat' (first|(refine CmpP.go (fun hc => ?_) (fun hc => ?_)<;>first|(exfalso;omega)|(conv=>whnf))|(refine OpP.add ?_ ?_;omega;conv=>whnf)|(refine AKM.x ?_;conv=>whnf)))
     exact AKM.back [] (by (conv=>whnf);exact ⟨rfl,rfl,rfl⟩) (ch (c+1) (by omega) (hE.skip hcn fun q x h1 hx=>i3 q x h1 (by have:=(List.getElem?_eq_some_iff.1 hx).1;omega) hx))
   ·clear ch
    (repeat' (first|(refine CmpP.go (fun hc => ?_) (fun hc => ?_)<;>first|(exfalso;omega)|(conv=>whnf))|(refine AKM.x ?_;conv=>whnf)))
    exact Held.go (AKM.back [] (by (conv=>whnf);exact ⟨rfl,rfl,rfl⟩) (hmeet m c odd ⟨hE,fun h=>absurd h hcn⟩))
 ·clear eh
  (repeat' (first|(refine CmpP.go (fun hc => ?_) (fun hc => ?_)<;>first|(exfalso;omega)|(conv=>whnf))|(refine AKM.x ?_;conv=>whnf)))
  refine ⟨rfl,?_⟩
  (conv=>whnf)
  (repeat' (refine CmpP.go (fun hc => ?_) (fun hc => ?_)<;>first|(exfalso;omega)|(conv=>whnf)))
  have hend:n≤c∨n≤P.length:=Or.inr (by omega)
  have hrk:=elm_rank (w:=0) hE hm0s hjl haw hal hend
  have hPn:P.length=n:=by have:=hE.ech.le;have:=hE.ech.pl;omega
  have hns:=hrk.1 hPn
  have hl0:=hE.l0
  have hlb:Bt 1000000000000 l:=hE.bl.le (pow6le hB (by omega))
  have hdet : ∀ (u:Rat) (D:List (List Rat)→Rat),DetF n n u D→u*l=sgB odd*(D a*prQ (a.map scQ)):=fun u D hD=>by
   rw[←hdw u D hD]
   exact hE.det hm0l hPn hD
  clear hdw
  have hscl:(a.map scQ).length=n:=by rw[List.length_map];exact hal
  have hscn : ∀ x∈a.map scQ,x≠0∧Bt K0 x:=fun x hx=>by
   obtain ⟨r,hr,rfl⟩:=List.mem_map.1 hx
   exact ⟨scQ_ne r,hscb r hr⟩
  have hnK:n*K0≤1000000000000:=Nat.le_trans (Nat.mul_le_mul_right K0 (Nat.le_of_lt (Nat.lt_pow_self (by omega)))) hB
  generalize a.map scQ=sc at *
  clear hE hml hPl
  skip
  refine AKM.loop2 (fun i _=>n-i) (fun (i:Nat) (x:Rat)=>i≤n∧x≠0∧Bt (1000000000000+i*K0) x∧x*prQ (sc.take i)=l) (fun i _=>[(43,.int .i64 i)]) (fun _ x=>[(8,8,.bx (eQ x))]) [] [] 0 l (by (conv=>whnf);exact ⟨rfl,rfl,rfl⟩) ⟨by omega,hl0,by simpa using hlb,Rat.mul_one l⟩ ?_
  intro i x ⟨p1,p2,p3,p4⟩ ih
  have hiK:i*K0≤n*K0:=Nat.mul_le_mul_right K0 p1
  by_cases hi:i<n
  ·obtain ⟨s,hs⟩ : ∃ s,sc[i]? = some s:=⟨_,List.getElem?_eq_getElem (by omega)⟩
   have hs2:=hscn s (List.mem_of_getElem? hs)
   have hKle:K0≤1000000000000:=Nat.le_trans (Nat.le_mul_of_pos_left K0 (by omega)) hnK
   have hD:=ev_divQ N.toRatGLib p3 hs2.2 (by omega) (by omega) hs2.1
   have hx2:x/s≠0:=by
    intro e
    have:=Rat.div_mul_cancel hs2.1 (a:=x)
    rw[e,Rat.zero_mul]at this
    exact p2 this.symm
   (repeat' (first|(refine CmpP.go (fun hc => ?_) (fun hc => ?_)<;>first|(exfalso;omega)|(conv=>whnf))|(refine Req.go ?_ ?_;omega;conv=>whnf)|(refine LdR.nat ?_ (fun _=>rfl) (fun v hv => ?_);omega;conv=>whnf)|(refine AKM.x ?_;conv=>whnf)))
   cases hs.symm.trans hv
   (repeat' (first|(refine OpP.add ?_ ?_;omega;conv=>whnf)|(refine CallP.go (hD) ?_;conv=>whnf)))
   exact AKM.back [] (by (conv=>whnf);exact ⟨rfl,rfl,rfl⟩) (ih (i+1) (x/s) (by omega) ⟨by omega,hx2,(p3.divL hs2.2).le (by rw[Nat.succ_mul];omega),by
    rw[prQ_take hs,←p4,Rat.mul_comm (prQ _) s,←Rat.mul_assoc,Rat.div_mul_cancel hs2.1]⟩)
  ·clear ih
   rw[List.take_of_length_le (by omega)]at p4
   have hN:=ev_negQ N.toStGLib p3 (by omega)
   cases odd
   ·(repeat' (first|(refine CmpP.go (fun hc => ?_) (fun hc => ?_)<;>first|(exfalso;omega)|(conv=>whnf))|(refine AKM.x ?_;conv=>whnf)))
    refine ⟨.tup [.agg (eQ x),.int .i64 0],?_,x,rfl,p3.le (by omega),⟨fun _=>hns,fun _=>p2⟩,fun u D hD=>mul_cancelQ hpn (by
     have h1:=hdet u D hD
     rw[←p4,show sgB false=1 from rfl]at h1
     grind)⟩
    (conv=>whnf)
    exact FinP.go rfl (cl_dt x)
   ·(repeat' (first|(refine CmpP.go (fun hc => ?_) (fun hc => ?_)<;>first|(exfalso;omega)|(conv=>whnf))|(refine AKM.x ?_;conv=>whnf)|(refine CallP.go (hN) ?_;conv=>whnf)))
    refine ⟨.tup [.agg (eQ (-x)),.int .i64 0],?_,-x,rfl,p3.negL.le (by omega),⟨fun _=>hns,fun _ h=>p2 (by rw[←Rat.neg_neg x,h];rfl)⟩,fun u D hD=>mul_cancelQ hpn (by
     have h1:=hdet u D hD
     rw[←p4,show sgB true = -1 from rfl]at h1
     grind)⟩
    (conv=>whnf)
    exact FinP.go rfl (cl_dt (-x))
end Go.Eng
