/-
  Matrices of rational numbers (layer 9): Valid, Identity and rows put side by side.
-/
import Derived.Test.YtgdojcofnobpeaaGreatB10
import Derived.Test.YtgdojcofnobpeaaGreatB4
import Derived.Test.YtgdojcofnobpeaaGreatB8
import Derived.Test.YtgdojcofnobpeaaGreatB9
import Derived.Test.YtgdojcofnobpeaaGreatB1
set_option linter.unusedSimpArgs false
set_option linter.unusedVariables false
set_option linter.unnecessarySimpa false
namespace Go.Eng
open F
attribute [local irreducible] AH BJ B1 BD E6 CF CI CY CU DX B5 DT EN GS DS CR DR EF AR CW BW pw DC DB EP EV E7 FM EZ D5 FE
variable {L:Lib}
set_option maxHeartbeats 16000000
abbrev E8 (q:Bool) (m:List (List Rat)):List (List AV):=m.map λ r=>[AV.sl q (r.map eQ)]
theorem TU (m:List (List Rat)) (e:Int):CS (.tup [.sl false (eM m),.int .i64 e]):=by
 simp only[CS,FG,and_true,true_and];exact tQ m
theorem mJ (N:MatGLib L) (q q':Bool) (a:List (List Rat)) (n w:Nat) (hn:a.length=n) (hw : ∀ r∈a,r.length=w) (h1:1<=n/\n<=52) (h2:1<=w/\w<=52):Ev L 229 [.sl q (E8 q' a)] (.bool true):=by
 obtain ⟨r0,hr0⟩ : ∃ r,a[0]? = some r:=⟨_,zE (by omega)⟩;have hr0':a[(0:Int).toNat]? = some r0:=hr0;have hl0:=hw r0 (zM hr0);refine Ev.x N.O9 rfl rfl ?_;(repeat' ((first|(apply BR<;>intro hc<;>try (exfalso;omega))|apply CB|(refine CX (by assumption) ?_ rfl ?_;omega)|apply BA)<;>conv=>whnf))
 refine DG (λ i=>n-i) (λ(i:Nat)=>i<=n) (λ i=>[(20,.int .i64 i)]) (λ_=>[]) [] [] 0 (by (conv=>whnf);exact ⟨rfl,rfl,rfl⟩) (by omega) ?_;intro i p1 ih;by_cases hi:i<n
 ·obtain ⟨r,hr⟩ : ∃ r,a[i]? = some r:=⟨_,zE (by omega)⟩
  have hr':a[(i:Int).toNat]? = some r:=hr;have hl:=hw r (zM hr);(repeat' ((first|(apply BR<;>intro hc<;>try (exfalso;omega))|(apply CG;omega)|apply CB|(refine CX (by assumption) ?_ rfl ?_;omega)|apply BA)<;>conv=>whnf))
  exact C6 [] (ih (i+1) (by omega) (by omega))
 ·obtain rfl:i=n:=by omega
  clear ih;(repeat' ((first|(apply BR<;>intro hc<;>try (exfalso;omega))|apply BA)<;>conv=>whnf))
  exact I4 rfl
theorem Wh (N:MatGLib L) (n:Nat) (hn:1<=n/\n<=52):Ev L 230 [.int .i64 n] (.tup [.sl false (eM (FJ n)),.int .i64 0]):=by
 have hO:=LK N.toa5 0 (by omega);have hI:=LK N.toa5 1 (by omega);have hat : ∀ i,i<n->(FJ n)[i]? = some (FV n i):=λ i hi=>by simp [FJ,hi]
 have htl:(FJ n).length=n:=by simp [FJ]
 generalize hT:FJ n=T at *;refine Ev.x N.O6 rfl rfl ?_;(repeat' ((first|(apply BR<;>intro hc<;>try (exfalso;omega))|apply BA)<;>conv=>whnf))
 unfold E7;refine ⟨⟨by omega,by omega,by simp only[F3];omega,by omega⟩,?_⟩;rw[Int.toNat_natCast];(conv=>whnf)
 skip
 refine DG (λ i=>n-i) (λ(i:Nat)=>i<=n) (λ i=>[(17,.int .i64 i)]) (λ i=>[(14,14,.mx (mz T n i))]) [] [] 0 (by first|exact (by (conv=>whnf);exact ⟨rfl,rfl,rfl⟩)|(rw[<-X0 T];exact (by (conv=>whnf);exact ⟨rfl,rfl,rfl⟩))) (by omega) ?_;intro i p1 ih;have hzl:=XY (Q:=T) p1;by_cases hi:i<n
 ·have hst:=XZ (hat i hi) hi
  generalize mz T n i=R0 at *;(repeat' ((first|(apply BR<;>intro hc<;>try (exfalso;omega))|apply BA)<;>conv=>whnf))
  refine GT (enc:=eO) none n rfl (by omega) (by omega) ?_;(conv=>whnf)
  (repeat' ((first|(apply CE;omega)|fail)<;>conv=>whnf))
  refine CE (by simp) ?_;refine OO (i:=i) (by omega) (by omega) ?_;(conv=>whnf)
  (repeat' ((first|(apply CE;omega)|fail)<;>conv=>whnf))
  refine MM (by omega) (by omega) ?_;(conv=>whnf)
  skip
  rw[show (List.map eO (List.replicate n none)).length=n by simp];refine DG (λ j=>n-j) (λ(j:Nat)=>j<=n) (λ j=>[(30,.int .i64 j)]) (λ j=>[(14,14,.mx (R0.set i (some (3,(FR (List.replicate j 0) n).map eO))))]) [] [] 0 (by first|exact (by (conv=>whnf);exact ⟨rfl,rfl,rfl⟩)|(rw[List.replicate_zero,<-KO];exact (by (conv=>whnf);exact ⟨rfl,rfl,rfl⟩))) (by omega) ?_;intro j r2 jh;have htj:(List.replicate j (0:Rat)).length=j:=by simp
  have hlf:=JM (l:=List.replicate j (0:Rat)) (m:=n) (by omega);by_cases hj:j<n
  ·have hs:=KP (l:=List.replicate j (0:Rat)) (m:=n) (x:=((0:Int):Rat)) (by omega)
   rw[htj,show List.replicate j (0:Rat)++[((0:Int):Rat)]=List.replicate (j+1) 0 from List.replicate_succ'.symm]at hs;generalize FR (List.replicate j (0:Rat)) n=W at *;(repeat' ((first|(apply BR<;>intro hc<;>try (exfalso;omega))|(apply CE;omega)|apply BA)<;>conv=>whnf))
   refine MM (by omega) (by omega) ?_;(conv=>whnf)
   (repeat' (refine BH (hO) ?_<;>conv=>whnf))
   refine CE (by rw[List.length_map];omega) ?_;(conv=>whnf)
   skip
   refine L1 (by omega) (by omega) ?_;(conv=>whnf)
   refine G8 (enc:=eO) (some ((0:Int):Rat)) rfl (λ e=>by cases e<;>rfl) (by omega) ?_;(conv=>whnf)
   rw[hs];refine VT (by omega) (by rw[List.length_map,List.length_map,<-hs,List.length_set]) ?_;(conv=>whnf)
   (repeat' ((first|(apply CG;omega)|fail)<;>conv=>whnf))
   exact C6 [] (jh (j+1) (by omega) (by omega))
  obtain rfl:j=n:=by omega
  clear jh;rw[K4 (by omega)];(repeat' ((first|(apply BR<;>intro hc<;>try (exfalso;omega))|(apply CE;omega)|apply BA)<;>conv=>whnf))
  refine MM (by omega) (by omega) ?_;(conv=>whnf)
  (repeat' (refine BH (hI) ?_<;>conv=>whnf))
  refine CE (by rw[List.length_map];omega) ?_;(conv=>whnf)
  skip
  refine L1 (by omega) (by omega) ?_;(conv=>whnf)
  refine G8 (enc:=eQ) ((1:Int):Rat) rfl (λ_=>rfl) (by omega) ?_;rw[show (List.replicate j (0:Rat)).set i ((1:Int):Rat)=FV j i from YR j i];(conv=>whnf)
  refine VT (by omega) (by rw[List.length_map,List.length_map,TD,htj]) ?_;rw[hst];(conv=>whnf)
  (repeat' ((first|(apply CG;omega)|fail)<;>conv=>whnf))
  exact C6 [] (ih (i+1) (by omega) (by omega))
 ·obtain rfl:i=n:=by omega
  clear ih;rw[XX (by omega)];(repeat' ((first|(apply BR<;>intro hc<;>try (exfalso;omega))|apply BA)<;>conv=>whnf))
  refine NT (λ_=>rfl) rfl (by omega) ?_;(conv=>whnf)
  exact CJ rfl (TU T 0)
def wT (p:Bool × List Rat):List AV:=[.sl p.1 (p.2.map eQ)]
def J8 (P:List (Bool × List Rat)) (i:Nat):List Rat:=((P.take i).map Prod.snd).flatten
theorem yQ {P:List (Bool × List Rat)} {i:Nat} {p:Bool × List Rat} (h:P[i]? = some p):J8 P (i+1)=J8 P i++p.2:=by
 simp only[J8,List.take_add_one,h,Option.toList_some,List.map_append,List.map_cons,List.map_nil,List.flatten_append,List.flatten_cons,List.flatten_nil,List.append_nil]
theorem Tl (N:MatGLib L) (q:Bool) (P:List (Bool × List Rat)) (n:Nat) (hn:P.length=n) (yd:n<=100) (hB : ∀ i,(J8 P i).length<=2000) (h0:0<(J8 P n).length):Ev L 228 [.sl q (P.map wT)] (.sl false ((J8 P n).map eQ)):=by
 refine Ev.x N.SV rfl rfl ?_;(repeat' ((first|apply CB|apply BA)<;>conv=>whnf))
 refine DG (λ i=>n-i) (λ(i:Nat)=>i<=n) (λ i=>[(11,.int .i64 i),(3,.int .i64 (J8 P i).length)]) (λ_=>[]) [] [] 0 (by (conv=>whnf);exact ⟨rfl,rfl,rfl⟩) (by omega) ?_;intro i p1 ih;by_cases hi:i<n
 ·obtain ⟨p,hp⟩ : ∃ p,P[i]? = some p:=⟨_,zE (by omega)⟩
  have vk:P[(i:Int).toNat]? = some p:=hp;have hs:=yQ hp;have hb:=hB i;have jt:=hB (i+1);have hl:(J8 P (i+1)).length=(J8 P i).length+p.2.length:=by rw[hs,List.length_append]
  (repeat' ((first|(apply BR<;>intro hc<;>try (exfalso;omega))|(apply CG;omega)|apply CB|(refine CX (by assumption) ?_ rfl ?_;omega)|apply BA)<;>conv=>whnf))
  rw[show ((J8 P i).length:Int)+(p.2.length:Int)=((J8 P (i+1)).length:Nat) by rw[hl];omega];exact C6 [] (ih (i+1) (by omega) (by omega))
 ·obtain rfl:i=n:=by omega
  clear ih;have hb:=hB i;(repeat' ((first|(apply BR<;>intro hc<;>try (exfalso;omega))|apply BA)<;>conv=>whnf))
  refine HI 1000 N.SW rfl rfl ?_;(repeat' ((first|(apply BR<;>intro hc<;>try (exfalso;omega))|(apply CE;omega)|(apply D4;omega)|apply BA)<;>conv=>whnf))
  refine CE ⟨by omega,by simp only[F3];omega,by omega⟩ ?_;(conv=>whnf)
  refine rW ⟨by omega,by omega⟩ ?_;(conv=>whnf)
  skip
  refine ⟨rfl,_,rfl,?_⟩;(conv=>whnf)
  (repeat' (apply CB<;>conv=>whnf))
  refine DG (λ j=>i-j) (λ(j:Nat)=>j<=i) (λ j=>[(27,.int .i64 j),(6,.row 227022 0 3 0 (J8 P j).length)]) (λ j=>[(227022,227022,.rw 3 ((J8 P j).map eQ))]) [] [] 0 (by (conv=>whnf);exact ⟨rfl,rfl,rfl⟩) (by omega) ?_;intro j p2 jh;by_cases hj:j<i
  ·obtain ⟨p,hp⟩ : ∃ p,P[j]? = some p:=⟨_,zE (by omega)⟩
   have vk:P[(j:Int).toNat]? = some p:=hp;have hs:=yQ hp;have hb:=hB j;have jt:=hB (j+1);have hl:(J8 P (j+1)).length=(J8 P j).length+p.2.length:=by rw[hs,List.length_append]
   (repeat' ((first|(apply BR<;>intro hc<;>try (exfalso;omega))|(refine CX (by assumption) ?_ rfl ?_;omega)|apply BA)<;>conv=>whnf))
   refine dY rfl (λ_=>rfl) (by omega) (by omega) ?_;rw[<-hs];(conv=>whnf)
   (repeat' ((first|(apply CG;omega)|fail)<;>conv=>whnf))
   exact C6 [(227022,33)] (jh (j+1) (by omega) (by omega))
  ·obtain rfl:j=i:=by omega
   clear jh;(repeat' ((first|(apply BR<;>intro hc<;>try (exfalso;omega))|(refine GI (λ_=>rfl) rfl ?_ ?_;(first|rfl|simp))|apply BA)<;>conv=>whnf))
   exact CJ rfl (by simp only[CS,true_and];exact KM _)
theorem Tk (N:MatGLib L) (q q1 q2:Bool) (a b:List Rat) (ha:a.length<=1000) (hb:b.length<=1000) (h0:0<a.length):Ev L 228 [.sl q [[.sl q1 (a.map eQ)],[.sl q2 (b.map eQ)]]] (.sl false ((a++b).map eQ)):=by
 have:=Tl N q [(q1,a),(q2,b)] 2 rfl (by omega) (λ i=>by
  rcases i with _|_|_|i<;>simp [J8]<;>omega) (by simp [J8];omega)
 simpa [J8,wT] using this
end Go.Eng
namespace Go.Eng
def HW (m:List (List Rat)) (X:List Rat):Prop := ∀ r∈m,CK r X=0
def comb (p f l:Rat) (r t:List Rat):List Rat:=List.zipWith (λ x y=>(x*p-y*f)/l) r t
theorem uT {p f l:Rat} {r t:List Rat} (h:r.length=t.length):(comb p f l r t).length=r.length:=by simp [comb,h]
theorem uS (p f l:Rat) : ∀ (r t X:List Rat),r.length=t.length->CK (comb p f l r t) X=(p*CK r X-f*CK t X)/l
 | [],[],X,_=>by
  show CK [] X=_;simp only[CK,Rat.div_def];grind
 | x::r,y::t,[],_=>by
  simp only[comb,List.zipWith_cons_cons,CK,Rat.div_def];grind
 | x::r,y::t,z::X,h=>by
  have ih:=uS p f l r t X (by simpa using h);simp only[comb]at ih;simp only[comb,List.zipWith_cons_cons,CK,ih,Rat.div_def];grind
theorem Rs {p f l:Rat} {r t:List Rat} {j:Nat} {x y:Rat} (hx:r[j]? = some x) (hy:t[j]? = some y):(comb p f l r t)[j]? = some ((x*p-y*f)/l):=by
 simp [comb,List.getElem?_zipWith,hx,hy]
theorem T8 {m:List (List Rat)} {i:Nat} {x r:List Rat} (h:r∈m.set i x):r=x \/ ∃ j,j≠i/\m[j]? = some r:=by
 obtain ⟨j,hj⟩:=List.getElem?_of_mem h;rw[List.getElem?_set]at hj;by_cases e:i=j
 ·subst e
  rw[if_pos rfl]at hj;split at hj
  ·exact Or.inl (Option.some.inj hj).symm
  ·cases hj
 ·rw[if_neg e]at hj
  exact Or.inr ⟨j,Ne.symm e,hj⟩
theorem Aju {m:List (List Rat)} {i k:Nat} {r t:List Rat} {p f l:Rat} (hi:m[i]? = some r) (hk:m[k]? = some t) (hik:k≠i) (hl:r.length=t.length) (hp:p≠0) (h0:l≠0) (X:List Rat):HW (m.set i (comb p f l r t)) X↔HW m X:=by
 have hc:=uS p f l r t X hl;have hil:=(zS hi).1;constructor
 ·intro h r' hr'
  have ht:CK t X=0:=h t (by
   refine zM (i:=k) ?_;rw[List.getElem?_set,if_neg (Ne.symm hik)];exact hk)
  have hn:CK (comb p f l r t) X=0:=h _ (zM (i:=i) (by rw[List.getElem?_set,if_pos rfl,if_pos hil]));rw[hc,ht]at hn;have hr0:CK r X=0:=by
   have e1:=Rat.div_mul_cancel h0 (a:=p*CK r X-f*0);rw[hn]at e1;have e2:p*CK r X=0:=by grind
   rcases Rat.mul_eq_zero.1 e2 with h|h
   ·exact absurd h hp
   ·exact h
  obtain ⟨j,hj⟩:=List.getElem?_of_mem hr';by_cases e:j=i
  ·subst e
   obtain rfl:=Option.some.inj (hi.symm.trans hj);exact hr0
  ·exact h r' (zM (i:=j) (by rw[List.getElem?_set,if_neg (Ne.symm e)];exact hj))
 ·intro h r' hr'
  rcases T8 hr' with rfl|⟨j,_,hj⟩
  ·rw[hc,h r (zM hi),h t (zM hk),Rat.div_def];grind
  ·exact h r' (zM hj)
theorem Ajt {m:List (List Rat)} {i k:Nat} {a b:List Rat} (hi:m[i]? = some a) (hk:m[k]? = some b) (X:List Rat):HW ((m.set i b).set k a) X↔HW m X:=by
 have hil:=(zS hi).1;have hkl:=(zS hk).1;constructor
 ·intro h r hr
  obtain ⟨j,hj⟩:=List.getElem?_of_mem hr;by_cases e1:j=k
  ·subst e1
   obtain rfl:=Option.some.inj (hk.symm.trans hj);by_cases e2:i=j
   ·subst e2
    obtain rfl:=Option.some.inj (hi.symm.trans hk);exact h _ (zM (i:=i) (by rw[List.getElem?_set,if_pos rfl,List.length_set,if_pos hil]))
   ·exact h _ (zM (i:=i) (by rw[List.getElem?_set,if_neg (Ne.symm e2),List.getElem?_set,if_pos rfl,if_pos hil]))
  ·by_cases e2:j=i
   ·subst e2
    obtain rfl:=Option.some.inj (hi.symm.trans hj);exact h _ (zM (i:=k) (by rw[List.getElem?_set,if_pos rfl,List.length_set,if_pos hkl]))
   ·exact h _ (zM (i:=j) (by rw[List.getElem?_set,if_neg (Ne.symm e1),List.getElem?_set,if_neg (Ne.symm e2)];exact hj))
 ·intro h r hr
  rcases T8 hr with rfl|⟨j,_,hj⟩
  ·exact h _ (zM hi)
  ·rcases T8 (zM hj) with rfl|⟨q,_,hq⟩
   ·exact h _ (zM hk)
   ·exact h _ (zM hq)
structure GZ (m:List (List Rat)) (W c:Nat) (P:List Nat):Prop where
 lr : ∀ r∈m,r.length=W
 pl:P.length<=m.length
 inc : ∀ i j p q:Nat,i<j->P[i]? = some p->P[j]? = some q->p<q
 pb : ∀ p∈P,p<c
 nz : ∀ (i p:Nat) (r:List Rat),P[i]? = some p->m[i]? = some r->r.getD p 0≠0 /\ ∀ j,j<p->r.getD j 0=0
 zr : ∀ (i:Nat) (r:List Rat),P.length<=i->m[i]? = some r -> ∀ j,j<c->r.getD j 0=0
theorem GZ.start {m:List (List Rat)} {W:Nat} (h : ∀ r∈m,r.length=W):GZ m W 0 [] :=
 ⟨h,Nat.zero_le _,λ i j p q _ h=>by simp at h,(λ p h=>by cases h),(λ i p r h=>by simp at h),λ i r _ _ j hj=>absurd hj (by omega)⟩
theorem GZ.skip {m:List (List Rat)} {W c:Nat} {P:List Nat} (h:GZ m W c P) (hz : ∀ i r,P.length<=i->m[i]? = some r->r.getD c 0=0):GZ m W (c+1) P :=
 ⟨h.lr,h.pl,h.inc,λ p hp=>Nat.lt_succ_of_lt (h.pb p hp),h.nz,λ i r hi hr j hj=>by
  by_cases e:j=c
  ·subst e;exact hz i r hi hr
  ·exact h.zr i r hi hr j (by omega)⟩
theorem GZ.swap {m:List (List Rat)} {W c i k:Nat} {P:List Nat} {a b:List Rat} (h:GZ m W c P) (hi:m[i]? = some a) (hk:m[k]? = some b) (h1:P.length<=i) (h2:P.length<=k):GZ ((m.set i b).set k a) W c P:=by
 have hg : ∀ q,q<P.length->((m.set i b).set k a)[q]? = m[q]? := λ q hq=>by
  rw[List.getElem?_set,if_neg (by omega),List.getElem?_set,if_neg (by omega)]
 have hm : ∀ q r,P.length<=q->((m.set i b).set k a)[q]? = some r -> ∃ q',P.length<=q'/\m[q']? = some r:=λ q r hq hr=>by
  rw[List.getElem?_set]at hr;split at hr
  ·split at hr
   ·obtain rfl:=Option.some.inj hr;exact ⟨i,h1,hi⟩
   ·cases hr
  ·rw[List.getElem?_set]at hr
   split at hr
   ·split at hr
    ·obtain rfl:=Option.some.inj hr;exact ⟨k,h2,hk⟩
    ·cases hr
   ·exact ⟨q,hq,hr⟩
 refine ⟨λ r hr => ?_,by simpa using h.pl,h.inc,h.pb,λ q p r hp hr => ?_,λ q r hq hr j hj => ?_⟩
 ·rcases T8 hr with rfl|⟨j,_,hj⟩
  ·exact h.lr _ (zM hi)
  ·rcases T8 (zM hj) with rfl|⟨q,_,hq⟩
   ·exact h.lr _ (zM hk)
   ·exact h.lr _ (zM hq)
 ·rw[hg q (zS hp).1]at hr
  exact h.nz q p r hp hr
 ·obtain ⟨q',h3,h4⟩:=hm q r hq hr
  exact h.zr q' r h3 h4 j hj
theorem GZ.xd {m:List (List Rat)} {W c:Nat} {P:List Nat} {t:List Rat} (h:GZ m W c P) (ht:m[P.length]? = some t) (hn:t.getD c 0≠0) (hz : ∀ i r,P.length<i->m[i]? = some r->r.getD c 0=0):GZ m W (c+1) (P++[c]):=by
 have nu:=(zS ht).1;refine ⟨h.lr,by simp;omega,λ i j p q mu hp hq => ?_,λ p hp => ?_,λ i p r hp hr => ?_,λ i r hi hr j hj => ?_⟩
 ·have hjl:=(zS hq).1
  rw[List.length_append,List.length_singleton]at hjl;rw[List.getElem?_append_left (by omega)]at hp;by_cases e:j<P.length
  ·rw[List.getElem?_append_left e]at hq
   exact h.inc i j p q mu hp hq
  ·rw[List.getElem?_append_right (by omega),show j-P.length=0 by omega]at hq
   obtain rfl:=Option.some.inj hq;exact h.pb p (zM hp)
 ·rcases List.mem_append.1 hp with hp|hp
  ·exact Nat.lt_succ_of_lt (h.pb p hp)
  ·obtain rfl:=List.mem_singleton.1 hp;omega
 ·by_cases e:i<P.length
  ·rw[List.getElem?_append_left e]at hp
   exact h.nz i p r hp hr
  ·have hil:=(zS hp).1
   rw[List.length_append,List.length_singleton]at hil;rw[List.getElem?_append_right (by omega),show i-P.length=0 by omega]at hp;obtain rfl:=Option.some.inj hp;obtain rfl:i=P.length:=by omega
   obtain rfl:=Option.some.inj (ht.symm.trans hr);exact ⟨hn,λ j hj=>h.zr P.length _ (Nat.le_refl _) ht j hj⟩
 ·rw[List.length_append,List.length_singleton]at hi
  by_cases e:j=c
  ·subst e;exact hz i r (by omega) hr
  ·exact h.zr i r (by omega) hr j (by omega)
theorem GZ.diag {m:List (List Rat)} {W c:Nat} {P:List Nat} (h:GZ m W c P) (hP:P.length=c) : ∀ i p:Nat,P[i]? = some p->p=i:=by
 have up : ∀ d i p:Nat,P[i]? = some p->i+d<c->p+d<c:=by
  intro d;induction d with
  | zero=>intro i p hp _;exact h.pb p (zM hp)
  | succ d ih =>
   intro i p hp hi;obtain ⟨q,hq⟩ : ∃ q,P[i+1]? = some q:=⟨_,zE (by omega)⟩;have h1:=h.inc i (i+1) p q (by omega) hp hq;have h2:=ih (i+1) q hq (by omega);omega
 have dn : ∀ i p:Nat,P[i]? = some p->i<=p:=by
  intro i;induction i with
  | zero=>intro p _;omega
  | succ i ih =>
   intro p hp;have hil:=(zS hp).1;obtain ⟨q,hq⟩ : ∃ q,P[i]? = some q:=⟨_,zE (by omega)⟩;have h1:=h.inc i (i+1) q p (by omega) hq hp;have h2:=ih q hq;omega
 intro i p hp;have hil:=(zS hp).1;have h1:=dn i p hp;have h2:=up (c-1-i) i p hp (by omega);omega
def EU (f:Nat->Rat):Nat->Rat
 | 0=>0
 | n+1=>EU f n+f n
theorem WN {f g:Nat->Rat} : ∀ n,(∀ j,j<n->f j=g j)->EU f n=EU g n
 | 0,_=>rfl
 | n+1,h=>by rw[EU,EU,WN n λ j hj=>h j (by omega),h n (by omega)]
theorem YO {f:Nat->Rat} : ∀ n,(∀ j,j<n->f j=0)->EU f n=0
 | 0,_=>rfl
 | n+1,h=>by rw[EU,YO n λ j hj=>h j (by omega),h n (by omega),Rat.add_zero]
theorem Hx {f:Nat->Rat} {n:Nat} : ∀ d,(∀ j,n<=j->f j=0)->EU f (n+d)=EU f n
 | 0,_=>rfl
 | d+1,h=>by rw[<-Nat.add_assoc,EU,Hx d h,h (n+d) (by omega),Rat.add_zero]
theorem jR {f:Nat->Rat} {k:Nat} : ∀ n,k<n->(∀ j,j<n->j≠k->f j=0)->EU f n=f k
 | n+1,hk,h=>by
  by_cases e:k=n
  ·subst e
   rw[EU,YO k λ j hj=>h j (by omega) (by omega),Rat.zero_add]
  ·rw[EU,jR n (by omega) λ j hj=>h j (by omega),h n (by omega) (Ne.symm e),Rat.add_zero]
theorem Hy (R y:Nat->Rat) (v:Rat) (k:Nat) : ∀ n,EU (λ j=>R j*(if j=k then v else y j)) n=EU (λ j=>R j*y j) n+if k<n then R k*(v-y k) else 0
 | 0=>by simp [EU,Rat.add_zero]
 | n+1=>by
  rw[EU,EU,Hy R y v k n];by_cases e:n=k
  ·subst e
   rw[if_pos rfl,if_neg (Nat.lt_irrefl n),if_pos (Nat.lt_succ_self n)];grind
  ·rw[if_neg e]
   by_cases h:k<n
   ·rw[if_pos h,if_pos (by omega)];grind
   ·rw[if_neg h,if_neg (by omega)];grind
theorem Hv (f:Nat->Rat) : ∀ n,EU f (n+1)=f 0+EU (λ j=>f (j+1)) n
 | 0=>by simp only[EU];grind
 | n+1=>by rw[EU,Hv f n,EU];grind
theorem UX : ∀ (r X:List Rat) (n:Nat),r.length<=n->CK r X=EU (λ j=>r.getD j 0*X.getD j 0) n
 | [],X,n,_=>by rw[YO n λ j _=>by simp];rfl
 | x::r,[],n,_=>by rw[V2,YO n λ j _=>by simp]
 | x::r,y::X,0,h=>by simp at h
 | x::r,y::X,n+1,h=>by
  rw[Hv,CK,UX r X n (by simpa using h)];simp
def UP (m:List (List Rat)) (i j:Nat):Rat:=(m.getD i []).getD j 0
theorem VW {m:List (List Rat)} {i:Nat} {r:List Rat} (h:m[i]? = some r) (j:Nat):UP m i j=r.getD j 0:=by
 rw[UP,show m.getD i []=r by rw[List.getD_eq_getElem?_getD,h];rfl]
def ZB (R:Nat->Nat->Rat) (c:Nat):Prop := ∀ i,i<c->R i i≠0 /\ ∀ j,j<i->R i j=0
theorem Gp {R:Nat->Nat->Rat} {c:Nat} (h:ZB R c) (f:Nat->Rat) : ∀ d,d<=c -> ∃ y:Nat->Rat,∀ i,c-d<=i->i<c->EU (λ j=>R i j*y j) c=f i
 | 0,_=>⟨λ_=>0,λ i h1 h2=>absurd h2 (by omega)⟩
 | d+1,hd=>by
  obtain ⟨y,hy⟩:=Gp h f d (by omega);obtain ⟨k,hk⟩ : ∃ k,k=c-(d+1):=⟨_,rfl⟩;have hkc:k<c:=by omega
  refine ⟨λ j=>if j=k then y k+(f k-EU (λ j=>R k j*y j) c)/R k k else y j,λ i h1 h2 => ?_⟩;rw[Hy (R i) y _ k c,if_pos hkc];by_cases e:i=k
  ·subst e
   have h0:=(h i hkc).1;have:=Rat.div_mul_cancel h0 (a:=f i-EU (λ j=>R i j*y j) c)
   grind
  ·rw[hy i (by omega) h2,(h i h2).2 k (by omega)];grind
theorem Gq {R:Nat->Nat->Rat} {c:Nat} (h:ZB R c) {y:Nat->Rat} (hy : ∀ i,i<c->EU (λ j=>R i j*y j) c=0) : ∀ d,d<=c -> ∀ j,c-d<=j->j<c->y j=0
 | 0,_=>λ j h1 h2=>absurd h2 (by omega)
 | d+1,hd=>λ j h1 h2=>by
  have ih:=Gq h hy d (by omega);by_cases e:c-d<=j
  ·exact ih j e h2
  ·have h3:=hy j h2
   rw[jR c h2 λ q hq hn=>by
    by_cases e2:q<j
    ·rw[(h j h2).2 q e2,Rat.zero_mul]
    ·rw[ih q (by omega) hq,Rat.mul_zero]]at h3
   rcases Rat.mul_eq_zero.1 h3 with h4|h4
   ·exact absurd h4 (h j h2).1
   ·exact h4
theorem GZ.low {m:List (List Rat)} {W c:Nat} {P:List Nat} (h:GZ m W c P) : ∀ i p:Nat,P[i]? = some p->i<=p
 | 0,p,_=>Nat.zero_le p
 | i+1,p,hp=>by
  have hil:=(zS hp).1;obtain ⟨q,hq⟩ : ∃ q,P[i]? = some q:=⟨_,zE (by omega)⟩;have h1:=h.inc i (i+1) q p (by omega) hq hp;have h2:=h.low i q hq;omega
theorem GZ.le {m:List (List Rat)} {W c:Nat} {P:List Nat} (h:GZ m W c P):P.length<=c:=by
 cases e:P.length with
 | zero=>exact Nat.zero_le c
 | succ k =>
  obtain ⟨q,hq⟩ : ∃ q,P[k]? = some q:=⟨_,zE (by omega)⟩;have h1:=h.low k q hq;have h2:=h.pb q (zM hq);omega
theorem GZ.wide {m:List (List Rat)} {W c n:Nat} {P:List Nat} (h:GZ m W c P) (hP:P.length=m.length) (hn:c<=n):GZ m W n P :=
 ⟨h.lr,h.pl,h.inc,λ p hp=>Nat.lt_of_lt_of_le (h.pb p hp) hn,h.nz,λ i r hi hr=>by
  have:=(zS hr).1
  omega⟩
theorem Gb {m:List (List Rat)} {W i n:Nat} {r X:List Rat} (hr:m[i]? = some r) (hl:r.length=W) (hn:n<=W) (hX : ∀ j,n<=j->X.getD j 0=0):CK r X=EU (λ j=>UP m i j*X.getD j 0) n:=by
 obtain ⟨d,rfl⟩:=Nat.exists_eq_add_of_le hn;rw[UX r X (n+d) (by omega),Hx d λ j hj=>by rw[hX j hj,Rat.mul_zero]];exact WN n λ j _=>by rw[VW hr]
theorem GZ.tri {m:List (List Rat)} {W n c:Nat} {P:List Nat} (h:GZ m W n P) (hc : ∀ i,i<c->P[i]? = some i):ZB (UP m) c:=λ i hi=>by
 have h1:=(zS (hc i hi)).1;obtain ⟨r,hr⟩ : ∃ r,m[i]? = some r:=⟨_,zE (Nat.lt_of_lt_of_le h1 h.pl)⟩;have:=h.nz i i r (hc i hi) hr
 rw[VW hr];exact ⟨this.1,λ j hj=>by rw[VW hr];exact this.2 j hj⟩
theorem GZ.full {m:List (List Rat)} {W n:Nat} {P:List Nat} (h:GZ m W n P) (hP:P.length=n) (hW:n<=W) {X:List Rat} (hk:HW m X) (hX : ∀ j,n<=j->X.getD j 0=0) (j:Nat):X.getD j 0=0:=by
 have hd : ∀ i,i<n->P[i]? = some i:=λ i hi=>by
  obtain ⟨q,hq⟩ : ∃ q,P[i]? = some q:=⟨_,zE (by omega)⟩;rw[hq,h.diag hP i q hq]
 have ht:=h.tri hd;by_cases e:j<n
 ·refine Gq ht (y:=λ j=>X.getD j 0) (λ i hi => ?_) n (Nat.le_refl n) j (by omega) e
  obtain ⟨r,hr⟩ : ∃ r,m[i]? = some r:=⟨_,zE (by have:=h.pl;omega)⟩;rw[<-Gb hr (h.lr r (zM hr)) hW hX];exact hk r (zM hr)
 ·exact hX j (by omega)
theorem GZ.gap {m:List (List Rat)} {W n:Nat} {P:List Nat} (h:GZ m W n P) : ∀ c:Nat,c<=P.length->(∀ i:Nat,i<c->P[i]? = some i) \/ ∃ k,(∀ i,i<k->P[i]? = some i) /\ ∃ p:Nat,P[k]? = some p/\k<p
 | 0,_=>Or.inl λ i hi=>absurd hi (by omega)
 | c+1,hc=>by
  rcases h.gap c (by omega) with h1|h1
  ·obtain ⟨q,hq⟩ : ∃ q,P[c]? = some q:=⟨_,zE (by omega)⟩
   have h2:=h.low c q hq;by_cases e:q=c
   ·subst e
    exact Or.inl λ i hi=>by
     by_cases e:i=q
     ·subst e;exact hq
     ·exact h1 i (by omega)
   ·exact Or.inr ⟨c,h1,q,hq,by omega⟩
  ·exact Or.inr h1
theorem V6 (f:Nat->Rat) (W j:Nat):((List.range W).map f).getD j 0=if j<W then f j else 0:=by
 rw[List.getD_eq_getElem?_getD,List.getElem?_map];by_cases h:j<W
 ·rw[List.getElem?_range h,if_pos h];rfl
 ·rw[List.getElem?_eq_none (by simp;omega),if_neg h];rfl
theorem GZ.less {m:List (List Rat)} {W n:Nat} {P:List Nat} (h:GZ m W n P) (hP:P.length<n) (hW:n<=W) : ∃ X:List Rat,X.length=W/\HW m X/\(∀ j,n<=j->X.getD j 0=0) /\ ∃ j,X.getD j 0≠0:=by
 obtain ⟨c,hcn,hc,hz⟩ : ∃ c,c<n/\(∀ i,i<c->P[i]? = some i) /\ ∀ i r,c<=i->m[i]? = some r -> ∀ j,j<=c->r.getD j 0=0:=by
  rcases h.gap P.length (Nat.le_refl _) with h1|⟨k,h1,p,h2,h3⟩
  ·exact ⟨P.length,hP,h1,λ i r hi hr j hj=>h.zr i r hi hr j (by omega)⟩
  ·refine ⟨k,Nat.lt_trans h3 (h.pb p (zM h2)),h1,λ i r hi hr j hj => ?_⟩
   by_cases e:i<P.length
   ·obtain ⟨q,hq⟩ : ∃ q,P[i]? = some q:=⟨_,zE e⟩
    refine (h.nz i q r hq hr).2 j ?_;by_cases e2:i=k
    ·subst e2
     obtain rfl:=Option.some.inj (h2.symm.trans hq);omega
    ·have:=h.inc k i p q (by omega) h2 hq
     omega
   ·exact h.zr i r (by omega) hr j (by have:=h.pb p (zM h2);omega)
 obtain ⟨y,hy⟩:=Gp (h.tri hc) (λ i=>UP m i c) c (Nat.le_refl c);have hg : ∀ j,((List.range W).map λ j=>if j<c then y j else if j=c then (-1:Rat) else 0).getD j 0=if j<c then y j else if j=c then (-1:Rat) else 0:=λ j=>by
  rw[V6];by_cases e:j<W
  ·rw[if_pos e]
  ·rw[if_neg e,if_neg (by omega),if_neg (by omega)]
 refine ⟨(List.range W).map λ j=>if j<c then y j else if j=c then (-1:Rat) else 0,by simp,λ r hr => ?_,λ j hj => ?_,c,?_⟩
 ·obtain ⟨i,hi⟩:=List.getElem?_of_mem hr
  rw[Gb hi (h.lr r hr) (show c+1<=W by omega) λ j hj=>by rw[hg,if_neg (by omega),if_neg (by omega)],EU,hg,if_neg (Nat.lt_irrefl c),if_pos rfl];by_cases e:i<c
  ·rw[WN c (g:=λ j=>UP m i j*y j) λ j hj=>by rw[hg,if_pos hj],hy i (by omega) e];grind
  ·rw[YO c λ j hj=>by rw[VW hi,hz i r (by omega) hi j (by omega),Rat.zero_mul],VW hi,hz i r (by omega) hi c (Nat.le_refl c),Rat.zero_mul,Rat.add_zero]
 ·rw[hg,if_neg (by omega),if_neg (by omega)]
 ·rw[hg,if_neg (Nat.lt_irrefl c),if_pos rfl]
  decide
def aT (m a:List (List Rat)):Prop:=m.length=a.length /\ ∀ (i:Nat) (r:List Rat),a[i]? = some r -> ∃ s:Rat,s≠0/\m[i]? = some (r.map (· * s))
theorem ZI (x:Rat) : ∀ a b:List Rat,CK (a.map (· * x)) b=CK a b*x
 | [],b=>by simp [CK]
 | a::l,[]=>by rw[V2,V2,Rat.zero_mul]
 | a::l,b::k=>by
  simp only[List.map_cons,CK,ZI x l k];grind
theorem aT.ker {m a:List (List Rat)} (h:aT m a) (X:List Rat):HW m X↔HW a X:=by
 constructor
 ·intro hk r hr
  obtain ⟨i,hi⟩:=List.getElem?_of_mem hr;obtain ⟨s,hs,hm⟩:=h.2 i r hi;have:=hk _ (zM hm)
  rw[ZI]at this;rcases Rat.mul_eq_zero.1 this with h|h
  ·exact h
  ·exact absurd h hs
 ·intro hk r hr
  obtain ⟨i,hi⟩:=List.getElem?_of_mem hr;obtain ⟨q,hq⟩ : ∃ q,a[i]? = some q:=⟨_,zE (by have:=(zS hi).1;have:=h.1;omega)⟩;obtain ⟨s,hs,hm⟩:=h.2 i q hq;obtain rfl:=Option.some.inj (hi.symm.trans hm);rw[ZI,hk q (zM hq),Rat.zero_mul]
def E1 (a b:List (List Rat)):List (List Rat):=List.zipWith (· ++ ·) a b
def NS (n:Nat) (a:List (List Rat)):Prop := ∀ X:List Rat,X.length=n->HW a X -> ∀ j,X.getD j 0=0
theorem UW : ∀ (u y v z:List Rat),u.length=y.length->CK (u++v) (y++z)=CK u y+CK v z
 | [],[],v,z,_=>by simp [CK,Rat.zero_add]
 | x::u,w::y,v,z,h=>by
  simp only[List.cons_append,CK,UW u y v z (by simpa using h)];grind
theorem V9 {a b:List (List Rat)} {i:Nat} {r s:List Rat} (hr:a[i]? = some r) (hs:b[i]? = some s):(E1 a b)[i]? = some (r++s):=by
 simp [E1,List.getElem?_zipWith,hr,hs]
theorem oA {n:Nat} {a b:List (List Rat)} (hl:a.length=b.length) (ha : ∀ r∈a,r.length=n) (y z:List Rat) (hy:y.length=n):HW (E1 a b) (y++z) ↔ ∀ (i:Nat) (r s:List Rat),a[i]? = some r->b[i]? = some s->CK r y+CK s z=0:=by
 constructor
 ·intro h i r s hr hs
  rw[<-UW r y s z (by rw[ha r (zM hr),hy])];exact h _ (zM (V9 hr hs))
 ·intro h q hq
  obtain ⟨i,hi⟩:=List.getElem?_of_mem hq;have hil:=(zS hi).1;simp only[E1,List.length_zipWith]at hil;obtain ⟨r,hr⟩ : ∃ r,a[i]? = some r:=⟨_,zE (by omega)⟩;obtain ⟨s,hs⟩ : ∃ s,b[i]? = some s:=⟨_,zE (by omega)⟩;obtain rfl:=Option.some.inj ((V9 hr hs).symm.trans hi);rw[UW r y s z (by rw[ha r (zM hr),hy])];exact h i r s hr hs
theorem Uq {X:List Rat} (h : ∀ j,X.getD j 0=0) (r:List Rat):CK r X=0:=by
 rw[UX r X r.length (Nat.le_refl _)];exact YO _ λ j _=>by rw[h,Rat.mul_zero]
theorem Aki {m a b:List (List Rat)} {w n:Nat} {P:List Nat} (h:GZ m (n+w) n P) (hk : ∀ X,HW m X↔HW (E1 a b) X) (hl:a.length=b.length) (ha : ∀ r∈a,r.length=n):P.length=n↔NS n a:=by
 constructor
 ·intro hP X hX hka j
  have h1:HW m (X++List.replicate w 0):=(hk _).2 ((oA hl ha X _ hX).2 λ i r s hr hs=>by
   rw[hka r (zM hr),bS,Rat.add_zero])
  by_cases e:j<n
  ·have h2:=h.full hP (by omega) h1 (λ j hj=>by
    rw[List.getD_eq_getElem?_getD,List.getElem?_append_right (by omega),List.getElem?_replicate];split<;>rfl) j
   rw[List.getD_eq_getElem?_getD,List.getElem?_append_left (by omega)]at h2;rw[List.getD_eq_getElem?_getD];exact h2
  ·rw[List.getD_eq_getElem?_getD,List.getElem?_eq_none (by omega)];rfl
 ·intro hns
  have h1:=h.le;rcases Nat.lt_or_ge P.length n with hP|hP
  ·exfalso
   obtain ⟨X,hX,hX1,Ip,j,hj⟩:=h.less hP (by omega);have h2:=(hk _).1 hX1;rw[<-List.take_append_drop n X]at h2;have htl:(X.take n).length=n:=by simp;omega
   have h3:=(oA hl ha _ _ htl).1 h2;have hz : ∀ q,(X.drop n).getD q 0=0:=λ q=>by
    have:=Ip (n+q) (by omega)
    rw[List.getD_eq_getElem?_getD]at this;rw[List.getD_eq_getElem?_getD,List.getElem?_drop];exact this
   have h4:=hns (X.take n) htl (λ r hr=>by
    obtain ⟨i,hi⟩:=List.getElem?_of_mem hr;obtain ⟨s,hs⟩ : ∃ s,b[i]? = some s:=⟨_,zE (by have:=(zS hi).1;omega)⟩;have:=h3 i r s hi hs
    rw[Uq hz,Rat.add_zero]at this;exact this) j
   by_cases e:j<n
   ·rw[List.getD_eq_getElem?_getD,List.getElem?_take_of_lt e,<-List.getD_eq_getElem?_getD]at h4
    exact hj h4
   ·exact hj (Ip j (by omega))
  ·omega
def iK (w c:Nat):List Rat:=(List.range w).map λ q=>if q=c then -1 else 0
theorem wG {r:List Rat} {w c:Nat} (hr:r.length=w) (hc:c<w):CK r (iK w c) = - r.getD c 0:=by
 rw[UX r _ w (by omega),jR w hc λ j hj hn=>by rw[iK,V6,if_pos hj,if_neg hn,Rat.mul_zero],iK,V6,if_pos hc,if_pos rfl];grind
theorem Rr {m a b:List (List Rat)} {w n c:Nat} {y:List Rat} (hk : ∀ X,HW m X↔HW (E1 a b) X) (hl:a.length=b.length) (ha : ∀ r∈a,r.length=n) (hb : ∀ r∈b,r.length=w) (hc:c<w) (hy:y.length=n) (hm : ∀ r∈m,r.length=n+w) (hs : ∀ r∈m,CK (r.take n) y=r.getD (n+c) 0) {i:Nat} {r s:List Rat} (hr:a[i]? = some r) (hi:b[i]? = some s):CK r y=s.getD c 0:=by
 have h1:HW m (y++iK w c):=λ q hq=>by
  have nv:=hm q hq;have e:q=q.take n++q.drop n:=(List.take_append_drop n q).symm;rw[e,UW _ _ _ _ (by rw[List.length_take,hy];omega),hs q hq,wG (by rw[List.length_drop];omega) hc];have:(q.drop n).getD c 0=q.getD (n+c) 0:=by rw[List.getD_eq_getElem?_getD,List.getElem?_drop,<-List.getD_eq_getElem?_getD]
  rw[this];grind
 have h2:=(oA hl ha y _ hy).1 ((hk _).1 h1) i r s hr hi;rw[wG (hb s (zM hi)) hc]at h2;grind
def WD (y:Nat->List Rat) (n:Nat):List (List Rat):=(List.range n).map λ i:Nat=>(List.range n).map λ c=>(y c).getD i 0
theorem Zh {y:Nat->List Rat} {n c:Nat} (hy:(y c).length=n) (hc:c<n):EB (WD y n) c=y c:=by
 refine List.ext_getElem? λ i => ?_
 simp only[EB,WD,List.map_map,List.getElem?_map];by_cases h:i<n
 ·rw[List.getElem?_range h,Option.map_some,Function.comp_apply,V6,if_pos hc,List.getD_eq_getElem?_getD,zE (by omega)];rfl
 ·rw[List.getElem?_eq_none (by simp;omega),List.getElem?_eq_none (by omega)];rfl
theorem rE (n i j:Nat):(FV n i).getD j 0=if j<n then (if j=i then 1 else 0) else 0:=by
 rw[FV,V6];by_cases h:j<n
 ·rw[if_pos h,if_pos h]
  by_cases e:j=i
  ·rw[if_pos e,if_pos (by omega)]
  ·rw[if_neg e,if_neg (by omega)]
 ·rw[if_neg h,if_neg h]
theorem Ajk {a:List (List Rat)} {n:Nat} {y:Nat->List Rat} (ha:a.length=n) (hy : ∀ c,c<n->(y c).length=n) (h : ∀ (c i:Nat) (r:List Rat),c<n->a[i]? = some r->CK r (y c)=if c=i then 1 else 0):EA a (WD y n) n=FJ n:=by
 refine List.ext_getElem? λ i => ?_
 simp only[EA,FJ,List.getElem?_map];by_cases hi:i<n
 ·obtain ⟨r,hr⟩ : ∃ r,a[i]? = some r:=⟨_,zE (by omega)⟩
  rw[hr,List.getElem?_range hi,Option.map_some,Option.map_some];congr 1;refine List.map_congr_left λ c hc => ?_
  have hc':=List.mem_range.1 hc;rw[Zh (hy c hc') hc',h c i r hc' hr];by_cases e:c=i
  ·rw[if_pos e,if_pos (by omega)]
  ·rw[if_neg e,if_neg (by omega)]
 ·rw[List.getElem?_eq_none (by omega),List.getElem?_eq_none (by simp;omega)];rfl
theorem Ak4 {a:List (List Rat)} {n:Nat} (ha : ∀ r∈a,r.length=n) {X Y:List Rat} (hX:X.length=n) (hY:Y.length=n) (h:CO a X=CO a Y) (hns:NS n a):X=Y:=by
 have h1:=hns ((List.range n).map λ j=>X.getD j 0-Y.getD j 0) (by simp) (λ r hr=>by
  obtain ⟨i,hi⟩:=List.getElem?_of_mem hr;have e:CK r X=CK r Y:=by
   have:=congrArg (·[i]?) h
   simp only[CO,List.getElem?_map,hi,Option.map_some,Option.some.injEq]at this;exact this
  have hs : ∀ k,EU (λ j=>r.getD j 0*((List.range n).map λ j=>X.getD j 0-Y.getD j 0).getD j 0) k=EU (λ j=>r.getD j 0*X.getD j 0) k-EU (λ j=>r.getD j 0*Y.getD j 0) k:=by
   intro k;induction k with
   | zero=>simp only[EU];grind
   | succ k ih =>
    rw[EU,EU,EU,ih,V6];by_cases e:k<n
    ·rw[if_pos e];grind
    ·rw[if_neg e,List.getD_eq_getElem?_getD,List.getD_eq_getElem?_getD,List.getD_eq_getElem?_getD,List.getElem?_eq_none (show X.length<=k by omega),List.getElem?_eq_none (show Y.length<=k by omega)]
     simp only[Option.getD_none];grind
  rw[UX r _ r.length (Nat.le_refl _),hs,<-UX r X _ (Nat.le_refl _),<-UX r Y _ (Nat.le_refl _),e];grind)
 refine List.ext_getElem? λ j => ?_
 by_cases e:j<n
 ·have:=h1 j
  rw[V6,if_pos e]at this;have h2:X.getD j 0=Y.getD j 0:=by grind
  rw[List.getD_eq_getElem?_getD,List.getD_eq_getElem?_getD,zE (by omega),zE (by omega)]at h2;rw[zE (by omega),zE (by omega)];exact congrArg some h2
 ·rw[List.getElem?_eq_none (by omega),List.getElem?_eq_none (by omega)]
theorem Cv {a:List (List Rat)} {n i:Nat} (ha : ∀ r∈a,r.length=n) (hi:i<n):CO a (FV n i)=EB a i:=by
 refine List.map_congr_left λ r hr => ?_
 rw[UX r _ n (by rw[ha r hr];exact Nat.le_refl n),jR n hi λ j hj hn=>by rw[rE,if_pos hj,if_neg hn,Rat.mul_zero],rE,if_pos hi,if_pos rfl,Rat.mul_one]
theorem Zw {a b:List (List Rat)} {n:Nat} (ha:Sq n a) (hb:Sq n b) (h : ∀ c,c<n->EB a c=EB b c):a=b:=by
 refine List.ext_getElem? λ i => ?_
 by_cases hi:i<n
 ·obtain ⟨r,hr⟩ : ∃ r,a[i]? = some r:=⟨_,zE (by rw[ha.l];exact hi)⟩
  obtain ⟨s,hs⟩ : ∃ s,b[i]? = some s:=⟨_,zE (by rw[hb.l];exact hi)⟩;rw[hr,hs];congr 1;refine List.ext_getElem? λ j => ?_
  have h1:=ha.at hr;have h2:=hb.at hs;by_cases hj:j<n
  ·have:=congrArg (·[i]?) (h j hj)
   simp only[EB,List.getElem?_map,hr,hs,Option.map_some,Option.some.injEq]at this;rw[List.getD_eq_getElem?_getD,List.getD_eq_getElem?_getD,zE (by omega),zE (by omega)]at this;rw[zE (by omega),zE (by omega)];exact congrArg some this
  ·rw[List.getElem?_eq_none (by omega),List.getElem?_eq_none (by omega)]
 ·rw[List.getElem?_eq_none (by rw[ha.l];omega),List.getElem?_eq_none (by rw[hb.l];omega)]
theorem Ajd {a v:List (List Rat)} {n:Nat} (ha:Sq n a) (hv:Sq n v) (hns:NS n a) (h:EA a v n=FJ n):EA v a n=FJ n:=by
 refine Zw (Sq.mul hv.l a) (Sq.id n) λ c hc => ?_
 have hm:=Sq.mul hv.l a (n:=n);have hu:(FV n c).length=n:=by simp [FV]
 rw[<-Cv hm.r hc,<-Cv (Sq.id n).r hc,XW hu];refine Ak4 ha.r (by rw[K7,hm.l]) hu ?_ hns;rw[MC v a _ ha.r,<-MC a v _ hv.r,h,XW (by rw[K7,ha.l])]
end Go.Eng

namespace Go.Eng
theorem Bt.xa {k:Nat} {y:Rat} (h:Bt k y):Bt k y⁻¹:=by
 rw[Rat.inv_def];rcases Int.natAbs_eq y.num with e|e
 ·rw[e,Rat.divInt_ofNat]
  exact Bt.mk (by simpa using h.2) h.1
 ·rw[e,Rat.divInt_neg',Rat.divInt_ofNat]
  exact Bt.mk (by simpa using h.2) h.1
theorem Bt.divL {k l:Nat} {x y:Rat} (hx:Bt k x) (hy:Bt l y):Bt (k+l) (x/y):=by
 rw[Rat.div_def];exact hx.mul hy.xa
theorem Bt.negL {k:Nat} {x:Rat} (h:Bt k x):Bt k (-x):=⟨by rw[Rat.neg_num,Int.natAbs_neg];exact h.1,by rw[Rat.neg_den];exact h.2⟩
theorem Bt.subL {k l:Nat} {x y:Rat} (hx:Bt k x) (hy:Bt l y):Bt (k+l+1) (x-y):=by
 rw[Rat.sub_eq_add_neg];exact hx.add hy.negL
theorem Bt.ue {k:Nat} {x p y f l:Rat} (hx:Bt k x) (hp:Bt k p) (hy:Bt k y) (hf:Bt k f) (hl:Bt k l):Bt (5*k+1) ((x*p-y*f)/l) :=
 (((hx.mul hp).subL (hy.mul hf)).divL hl).le (by omega)
theorem uU {p f l:Rat} : ∀ {r t:List Rat} {z:Rat},z∈comb p f l r t -> ∃ x∈r,∃ y∈t,z=(x*p-y*f)/l
 | [],_,z,h=>by simp [comb]at h
 | _::_,[],z,h=>by simp [comb]at h
 | x::r,y::t,z,h=>by
  simp only[comb,List.zipWith_cons_cons,List.mem_cons]at h;rcases h with h|h
  ·exact ⟨x,List.mem_cons_self,y,List.mem_cons_self,h⟩
  ·obtain ⟨a,ha,b,hb,e⟩:=uU (r:=r) (t:=t) h
   exact ⟨a,List.mem_cons_of_mem _ ha,b,List.mem_cons_of_mem _ hb,e⟩
theorem Bs.comb {k:Nat} {r t:List Rat} {p f l:Rat} (hr:Bs k r) (ht:Bs k t) (hp:Bt k p) (hf:Bt k f) (hl:Bt k l):Bs (5*k+1) (comb p f l r t):=λ z hz=>by
 obtain ⟨x,hx,y,hy,rfl⟩:=uU hz;exact Bt.ue (hr x hx) hp (ht y hy) hf hl
theorem lI {p f l:Rat} : ∀ {r t:List Rat},r.length=t.length -> ∀ j,(comb p f l r t).getD j 0=(r.getD j 0*p-t.getD j 0*f)/l
 | [],[],_,j=>by simp [comb,Rat.div_def,Rat.zero_mul,Rat.sub_eq_add_neg,Rat.neg_zero,Rat.add_zero]
 | x::r,y::t,_,0=>by simp [comb]
 | x::r,y::t,h,j+1=>by
  have:=lI (p:=p) (f:=f) (l:=l) (r:=r) (t:=t) (by simpa using h) j
  simp only[comb]at this;simpa [comb] using this
def YG (s x:Rat):Rat:=s*(((s*x).den:Nat):Rat)
def C4 (r:List Rat):Rat:=r.foldl YG 1
theorem pV (r:List Rat) (x:Rat):C4 (r++[x])=YG (C4 r) x:=by rw[C4,List.foldl_append];rfl
theorem AkF {s x:Rat} (h:s≠0):YG s x≠0:=by
 intro e;rcases Rat.mul_eq_zero.1 e with e|e
 ·exact h e
 ·have:=(s*x).den_pos
  have:((s*x).den:Rat)=((0:Nat):Rat):=e
  have:=Rat.natCast_inj.1 this
  omega
theorem pT (r:List Rat):C4 r≠0:=by
 have : ∀ (r:List Rat) (s:Rat),s≠0->r.foldl YG s≠0:=by
  intro r;induction r with
  | nil=>intro s h;exact h
  | cons x r ih=>intro s h;exact ih _ (AkF h)
 exact this r 1 (by decide)
theorem AkE {a k:Nat} {s x:Rat} (hs:Bt a s) (hx:Bt k x):Bt (2*a+k) (YG s x):=by
 have h1:=(hs.mul hx).2;have h2:Bt (a+k) (((s*x).den:Nat):Rat):=by
  have:=Bt.ofInt (k:=a+k) (z:=(((s*x).den:Nat):Int)) (by simpa using h1)
  rwa [Rat.intCast_natCast]at this
 exact (hs.mul h2).le (by omega)
theorem jG {k:Nat} (hk:1<=k) : ∀ {r:List Rat},Bs k r->Bt (3^r.length*k-k) (C4 r):=by
 have : ∀ (r:List Rat) (s:Rat) (i:Nat),Bs k r->Bt (3^i*k-k) s->Bt (3^(i+r.length)*k-k) (r.foldl YG s):=by
  intro r;induction r with
  | nil=>intro s i _ h;exact h
  | cons x r ih =>
   intro s i hr h;have h1:=AkE h (hr x List.mem_cons_self);have h2:=ih (YG s x) (i+1) (λ y hy=>hr y (List.mem_cons_of_mem _ hy)) (h1.le (by
    have:1<=3^i:=Nat.one_le_pow _ _ (by omega)
    have e:3^(i+1)*k=3*(3^i*k):=by rw[Nat.pow_succ];rw[Nat.mul_comm (3^i) 3,Nat.mul_assoc]
    have h3:k<=3^i*k:=Nat.le_mul_of_pos_left k (by omega);rw[e];omega))
   rw[List.length_cons,show i+(r.length+1)=i+1+r.length by omega];exact h2
 intro r hr;have:=this r 1 0 hr (Bt.one _)
 rwa [Nat.zero_add]at this
def whole (m:List (List Rat)):List (List Rat):=m.map λ r=>r.map (· * C4 r)
theorem Alt (m:List (List Rat)):aT (whole m) m:=⟨by simp [whole],λ i r hr=>⟨C4 r,pT r,by simp [whole,hr]⟩⟩
theorem rH {m:List (List Rat)} {W:Nat} (h : ∀ r∈m,r.length=W) : ∀ r∈whole m,r.length=W:=λ r hr=>by
 obtain ⟨q,hq,rfl⟩:=List.mem_map.1 hr;simpa using h q hq
theorem rJ {m:List (List Rat)} {W k:Nat} (hk:1<=k) (h : ∀ r∈m,r.length=W) (hb:Ms k m):Ms (3^W*k) (whole m):=λ r hr=>by
 obtain ⟨q,hq,rfl⟩:=List.mem_map.1 hr;have h1:=jG hk (hb q hq);rw[h q hq]at h1;intro x hx;obtain ⟨y,hy,rfl⟩:=List.mem_map.1 hx;have h2:k<=3^W*k:=Nat.le_mul_of_pos_left k (Nat.pow_pos (by omega));exact ((hb q hq y hy).mul h1).le (by omega)
theorem rM {m:List (List Rat)} {W k:Nat} (hk:1<=k) (h : ∀ r∈m,r.length=W) (hb:Ms k m) : ∀ r∈m,∀ j,Bt (3^W*k) (C4 (r.take j)):=λ r hr j=>(jG hk ((hb r hr).take j)).le (by
 have:3^(r.take j).length<=3^W:=Nat.pow_le_pow_right (by omega) (by rw[List.length_take,h r hr];omega)
 have:=Nat.mul_le_mul_right k this
 omega)
theorem rG (k W:Nat):k<=3^W*k:=Nat.le_mul_of_pos_left k (Nat.pow_pos (by omega))
def LN:List (List Rat)->List Nat->Rat
 | r::m,p::P=>r.getD p 0*LN m P
 | _,_=>1
theorem cZ : ∀ m,LN m []=1
 | []=>rfl
 | _::_=>rfl
theorem iS : ∀ (m:List (List Rat)) (P:List Nat) (i:Nat) (x:List Rat),P.length<=i->LN (m.set i x) P=LN m P
 | [],_,_,_,_=>rfl
 | _::_,[],_,_,_=>by rw[cZ,cZ]
 | r::m,p::P,0,x,h=>by simp at h
 | r::m,p::P,i+1,x,h=>by
  rw[List.set_cons_succ,LN,LN,iS m P i x (by simpa using h)]
theorem Fi (c:Nat) (t:List Rat) : ∀ (m:List (List Rat)) (P:List Nat),m[P.length]? = some t->LN m (P++[c])=LN m P*t.getD c 0
 | [],_,h=>by simp at h
 | r::m,[],h=>by
  obtain rfl:r=t:=by simpa using h
  rw[List.nil_append,LN,cZ,cZ,Rat.mul_one,Rat.one_mul]
 | r::m,p::P,h=>by
  rw[List.cons_append,LN,LN,Fi c t m P (by simpa using h),Rat.mul_assoc]
structure sC (n W:Nat) (u:Rat) (D:List (List Rat)->Rat):Prop where
 sw : ∀ (m:List (List Rat)) (i k:Nat) (a b:List Rat),m.length=n->(∀ r∈m,r.length=W)->m[i]? = some a->m[k]? = some b->i≠k->D ((m.set i b).set k a) = -D m
 ad : ∀ (m:List (List Rat)) (i k:Nat) (r t:List Rat) (p f l:Rat),m.length=n->(∀ r∈m,r.length=W)->m[i]? = some r->m[k]? = some t->i≠k->l≠0->D (m.set i (comb p f l r t))=D m*(p/l)
 sc : ∀ (m:List (List Rat)) (i:Nat) (r:List Rat) (s:Rat),m.length=n->(∀ r∈m,r.length=W)->m[i]? = some r->D (m.set i (r.map (· * s)))=D m*s
 tr : ∀ m:List (List Rat),m.length=n->(∀ r∈m,r.length=W)->ZB (UP m) n->D m=LN m (List.range n)*u
def dK (b:Bool):Rat:=bif b then -1 else 1
theorem AkH (b:Bool):dK (!b) = -dK b:=by cases b<;>decide
theorem Dk : ∀ n:Nat,(1:Rat)^n=1
 | 0=>Rat.pow_zero 1
 | n+1=>by rw[Rat.pow_succ,Dk n,Rat.mul_one]
theorem Fl {l:Rat} (h:l≠0) : ∀ n:Nat,l^n≠0
 | 0=>by rw[Rat.pow_zero];decide
 | n+1=>by
  rw[Rat.pow_succ];intro e;rcases Rat.mul_eq_zero.1 e with e|e
  ·exact Fl h n e
  ·exact h e
theorem AjY {a b c:Rat} (h:c≠0) (e:a*c=b*c):a=b:=by
 have h1:=Rat.mul_inv_cancel c h;have:a*c*c⁻¹=b*c*c⁻¹:=by rw[e]
 rwa [Rat.mul_assoc,Rat.mul_assoc,h1,Rat.mul_one,Rat.mul_one]at this
structure JW (m0:List (List Rat)) (K W y7:Nat) (m:List (List Rat)) (P:List Nat) (c:Nat) (odd:Bool) (l:Rat):Prop where
 ech:GZ m W c P
 len:m.length=m0.length
 cc:c<=y7
 l0:l≠0
 ker : ∀ X,HW m X↔HW m0 X
 ms:Ms (6^P.length*K) m
 bl:Bt (6^P.length*K) l
 dt : ∀ (u:Rat) (D:List (List Rat)->Rat),sC m0.length W u D->D m*l=dK odd*D m0*LN m P*l^(m0.length-P.length)
theorem JW.start {m0:List (List Rat)} {K W y7:Nat} (h : ∀ r∈m0,r.length=W) (hb:Ms K m0):JW m0 K W y7 m0 [] 0 false 1 :=
 ⟨GZ.start h,rfl,Nat.zero_le _,by decide,λ_=>Iff.rfl,by simpa using hb,Bt.one _,λ u D _=>by rw[cZ,Dk,Rat.mul_one,Rat.mul_one,Rat.mul_one];exact (Rat.one_mul _).symm⟩
section
variable {m0 m:List (List Rat)} {K W y7 c:Nat} {P:List Nat} {odd:Bool} {l:Rat}
theorem JW.skip (h:JW m0 K W y7 m P c odd l) (hc:c<y7) (hz : ∀ (i:Nat) (r:List Rat),P.length<=i->m[i]? = some r->r.getD c 0=0):JW m0 K W y7 m P (c+1) odd l :=
 ⟨h.ech.skip hz,h.len,hc,h.l0,h.ker,h.ms,h.bl,h.dt⟩
theorem JW.swap {i k:Nat} {a b:List Rat} (h:JW m0 K W y7 m P c odd l) (hi:m[i]? = some a) (hk:m[k]? = some b) (h1:P.length<=i) (h2:P.length<=k) (hn:i≠k):JW m0 K W y7 ((m.set i b).set k a) P c (!odd) l :=
 ⟨h.ech.swap hi hk h1 h2,by simpa using h.len,h.cc,h.l0,λ X=>(Ajt hi hk X).trans (h.ker X),λ r hr=>by
  rcases T8 hr with rfl|⟨j,_,hj⟩
  ·exact h.ms.at hi
  ·rcases T8 (zM hj) with rfl|⟨q,_,hq⟩
   ·exact h.ms.at hk
   ·exact h.ms.at hq,h.bl,λ u D hD=>by
  rw[hD.sw m i k a b h.len h.ech.lr hi hk hn,AkH,iS _ _ _ _ h2,iS _ _ _ _ h1,Rat.neg_mul,h.dt u D hD,Rat.neg_mul,Rat.neg_mul,Rat.neg_mul]⟩
structure UM (m0:List (List Rat)) (K W y7:Nat) (P:List Nat) (c:Nat) (odd:Bool) (l:Rat) (t:List Rat) (m:List (List Rat)) (i:Nat):Prop where
 ech:GZ m W c P
 len:m.length=m0.length
 cc:c<y7
 l0:l≠0
 ker : ∀ X,HW m X↔HW m0 X
 ht:m[P.length]? = some t
 nt:t.getD c 0≠0
 lo : ∀ q r,q<i->m[q]? = some r->Bs (5*(6^P.length*K)+1) r
 hi : ∀ q r,i<=q->m[q]? = some r->Bs (6^P.length*K) r
 bt:Bs (6^P.length*K) t
 bl:Bt (6^P.length*K) l
 z : ∀ q r,P.length<q->q<i->m[q]? = some r->r.getD c 0=0
 dt : ∀ (u:Rat) (D:List (List Rat)->Rat),sC m0.length W u D->D m*l*l^(i-P.length-1)=dK odd*D m0*LN m P*l^(m0.length-P.length)*t.getD c 0^(i-P.length-1)
theorem JW.swp {t:List Rat} (h:JW m0 K W y7 m P c odd l) (hc:c<y7) (ht:m[P.length]? = some t) (hn:t.getD c 0≠0):UM m0 K W y7 P c odd l t m (P.length+1) :=
 ⟨h.ech,h.len,hc,h.l0,h.ker,ht,hn,λ q r _ hr=>(h.ms.at hr).le (by omega),λ q r _ hr=>h.ms.at hr,h.ms.at ht,h.bl,λ q r h1 h2 _=>absurd h1 (by omega),λ u D hD=>by
  rw[show P.length+1-P.length-1=0 by omega,Rat.pow_zero,Rat.pow_zero,Rat.mul_one,Rat.mul_one];exact h.dt u D hD⟩
theorem UM.step {t r:List Rat} {i:Nat} (h:UM m0 K W y7 P c odd l t m i) (hi:P.length<i) (hr:m[i]? = some r):UM m0 K W y7 P c odd l t (m.set i (comb (t.getD c 0) (r.getD c 0) l r t)) (i+1):=by
 have hil:=(zS hr).1;have hl:r.length=t.length:=by rw[h.ech.lr r (zM hr),h.ech.lr t (zM h.ht)]
 have hg : ∀ j,(comb (t.getD c 0) (r.getD c 0) l r t).getD j 0=(r.getD j 0*t.getD c 0-t.getD j 0*r.getD c 0)/l:=lI hl;have hat : ∀ (q:Nat) (x:List Rat),(m.set i (comb (t.getD c 0) (r.getD c 0) l r t))[q]? = some x->(q=i/\x=comb (t.getD c 0) (r.getD c 0) l r t)\/(q≠i/\m[q]? = some x):=λ q x hx=>by
  rw[List.getElem?_set]at hx;by_cases e:i=q
  ·rw[if_pos e,if_pos hil]at hx
   exact Or.inl ⟨e.symm,(Option.some.inj hx).symm⟩
  ·rw[if_neg e]at hx
   exact Or.inr ⟨Ne.symm e,hx⟩
 have uo:=h.hi i r (Nat.le_refl i) hr;have htc:Bt (6^P.length*K) (t.getD c 0):=by
  have:Ms (6^P.length*K) [t]:=λ x hx=>by obtain rfl:=List.mem_singleton.1 hx;exact h.bt
  exact this.getD 0 c
 have tk:Bt (6^P.length*K) (r.getD c 0):=by
  have:Ms (6^P.length*K) [r]:=λ x hx=>by obtain rfl:=List.mem_singleton.1 hx;exact uo
  exact this.getD 0 c
 have y8 : ∀ j,j<=c->(comb (t.getD c 0) (r.getD c 0) l r t).getD j 0=0:=λ j hj=>by
  rw[hg];by_cases e:j=c
  ·subst e;rw[Rat.div_def];grind
  ·rw[h.ech.zr i r (by omega) hr j (by omega),h.ech.zr P.length t (Nat.le_refl _) h.ht j (by omega),Rat.div_def];grind
 refine ⟨⟨λ x hx => ?_,by simpa using h.ech.pl,h.ech.inc,h.ech.pb,λ q p x hp hx => ?_,λ q x hq hx j hj => ?_⟩,by simpa using h.len,h.cc,h.l0,λ X=>(Aju hr h.ht (by omega) hl h.nt h.l0 X).trans (h.ker X),?_,h.nt,λ q x hq hx => ?_,λ q x hq hx => ?_,h.bt,h.bl,λ q x h1 h2 hx => ?_,λ u D hD => ?_⟩
 ·rcases T8 hx with rfl|⟨j,_,hj⟩
  ·rw[uT hl];exact h.ech.lr r (zM hr)
  ·exact h.ech.lr x (zM hj)
 ·have hql:=(zS hp).1
  rcases hat q x hx with ⟨rfl,_⟩|⟨_,hx⟩
  ·omega
  ·exact h.ech.nz q p x hp hx
 ·rcases hat q x hx with ⟨rfl,rfl⟩|⟨_,hx⟩
  ·exact y8 j (by omega)
  ·exact h.ech.zr q x hq hx j hj
 ·rw[List.getElem?_set,if_neg (by omega)];exact h.ht
 ·rcases hat q x hx with ⟨rfl,rfl⟩|⟨hne,hx⟩
  ·exact uo.comb h.bt htc tk h.bl
  ·exact h.lo q x (by omega) hx
 ·rcases hat q x hx with ⟨rfl,rfl⟩|⟨hne,hx⟩
  ·omega
  ·exact h.hi q x (by omega) hx
 ·rcases hat q x hx with ⟨rfl,rfl⟩|⟨hne,hx⟩
  ·exact y8 c (Nat.le_refl c)
  ·exact h.z q x h1 (by omega) hx
 ·have hd:=h.dt u D hD
  have hdl:=Rat.div_mul_cancel h.l0 (a:=t.getD c 0);rw[hD.ad m i P.length r t _ _ l h.len h.ech.lr hr h.ht (by omega) h.l0,iS _ _ _ _ (by omega),show i+1-P.length-1=(i-P.length-1)+1 by omega,Rat.pow_succ,Rat.pow_succ];rw[show D m*(t.getD c 0/l)*l*(l^(i-P.length-1)*l)=D m*l*l^(i-P.length-1)*(t.getD c 0/l*l) by grind,hd,hdl,Rat.mul_assoc]
theorem Fk (hK:1<=K) (p:Nat):5*(6^p*K)+1<=6^(p+1)*K:=by
 have h1:1<=6^p*K:=Nat.mul_pos (Nat.pow_pos (by omega)) hK;have e:6^(p+1)*K=6*(6^p*K):=by rw[Nat.pow_succ,Nat.mul_comm (6^p) 6,Nat.mul_assoc]
 omega
theorem oX {p n B:Nat} (h:6^n*K<=B) (hp:p<=n):6^p*K<=B :=
 Nat.le_trans (Nat.mul_le_mul_right K (Nat.pow_le_pow_right (by omega) hp)) h
theorem UM.done {t:List Rat} {i:Nat} (hK:1<=K) (h:UM m0 K W y7 P c odd l t m i) (hi:i=m.length):JW m0 K W y7 m (P++[c]) (c+1) odd (t.getD c 0):=by
 have e:(P++[c]).length=P.length+1:=by simp
 have h6:=Fk hK P.length;refine ⟨h.ech.xd h.ht h.nt λ q r hq hr=>h.z q r hq (hi ▸ (zS hr).1) hr,h.len,h.cc,h.nt,h.ker,?_,?_,λ u D hD => ?_⟩
 ·rw[e]
  intro r hr;obtain ⟨q,hq⟩:=List.getElem?_of_mem hr;exact (h.lo q r (hi ▸ (zS hq).1) hq).le h6
 ·rw[e]
  have:Ms (6^P.length*K) [t]:=λ x hx=>by obtain rfl:=List.mem_singleton.1 hx;exact h.bt
  exact (this.getD 0 c).le (by omega)
 ·have hd:=h.dt u D hD
  have nu:=(zS h.ht).1;have hlen:=h.len;rw[Fi c t m P h.ht,e];rw[hi,hlen,show m0.length-P.length=(m0.length-P.length-1)+1 by omega,Rat.pow_succ,Nat.add_sub_cancel]at hd;rw[show m0.length-(P.length+1)=m0.length-P.length-1 by omega];have hp:=Fl h.l0 (m0.length-P.length-1);generalize l^(m0.length-P.length-1)=x at *;generalize t.getD c 0=p at *;generalize p^(m0.length-P.length-1)=y at *;have h0:=h.l0;have h1:D m=dK odd*D m0*LN m P*y:=AjY (c:=l*x) (λ e=>by
   rcases Rat.mul_eq_zero.1 e with e|e
   ·exact h0 e
   ·exact hp e) (by grind)
  rw[h1];grind
end
def HK (c:Nat) (l:Rat):List (List Rat)->Nat->List Rat
 | [],_=>[]
 | r::m,i=>(r.getD c 0*l-CK (r.drop (i+1)) (HK c l m (i+1)))/r.getD i 0::HK c l m (i+1)
theorem UQ (c:Nat) (l:Rat) : ∀ (m:List (List Rat)) (i:Nat),(HK c l m i).length=m.length
 | [],_=>rfl
 | r::m,i=>by rw[HK,List.length_cons,UQ c l m (i+1),List.length_cons]
theorem Su (r:List Rat) (i:Nat) (h:i<r.length):r.drop i=r.getD i 0::r.drop (i+1):=by
 rw[List.drop_eq_getElem_cons h,List.getD_eq_getElem?_getD,zE h];rfl
theorem tG (c:Nat) (l:Rat) : ∀ (m:List (List Rat)) (i k:Nat) (r:List Rat),m[k]? = some r->i+k<r.length->r.getD (i+k) 0≠0->CK (r.drop (i+k)) ((HK c l m i).drop k)=r.getD c 0*l
 | q::m,i,0,r,h,hl,h0=>by
  obtain rfl:q=r:=by simpa using h
  rw[Nat.add_zero]at hl h0 ⊢;rw[Su q i hl,HK,List.drop_zero,CK];have:=Rat.div_mul_cancel h0 (a:=q.getD c 0*l-CK (q.drop (i+1)) (HK c l m (i+1)))
  grind
 | q::m,i,k+1,r,h,hl,h0=>by
  rw[HK,List.drop_succ_cons,show i+(k+1)=i+1+k by omega];exact tG c l m (i+1) k r (by simpa using h) (by omega) (by rw[show i+1+k=i+(k+1) by omega];exact h0)
 | [],_,_,_,h,_,_=>by simp at h
theorem wC : ∀ (i:Nat) (r x:List Rat),(∀ j,j<i->r.getD j 0=0)->CK r x=CK (r.drop i) (x.drop i)
 | 0,_,_,_=>rfl
 | i+1,[],x,_=>by simp [CK]
 | i+1,r::rs,[],_=>by rw[V2,List.drop_nil,V2]
 | i+1,r::rs,x::xs,h=>by
  have h0:r=0:=by simpa using h 0 (by omega)
  rw[CK,h0,Rat.zero_mul,Rat.zero_add,List.drop_succ_cons,List.drop_succ_cons];exact wC i rs xs λ j hj=>by simpa using h (j+1) (by omega)
theorem Nj {c n:Nat} {l:Rat} {m:List (List Rat)} (hn : ∀ r∈m,n<=r.length) (hm:m.length=n) (ht:ZB (UP m) n) (r:List Rat) (hr:r∈m):CK r (HK c l m 0)=r.getD c 0*l:=by
 obtain ⟨k,hk⟩:=List.getElem?_of_mem hr;have hkl:=(zS hk).1;have h1:=ht k (by omega);have h2:=tG c l m 0 k r hk (by have:=hn r hr;omega) (by rw[Nat.zero_add,<-VW hk];exact h1.1);rw[wC k r _ λ j hj=>by rw[<-VW hk];exact h1.2 j hj,<-h2,Nat.zero_add]
def HQ (S n:Nat):Nat->Nat
 | 0=>0
 | t+1=>3*S+n*(S+HQ S n t+1)
theorem lD (S n:Nat) : ∀ t,HQ S n t<=HQ S n (t+1)
 | 0=>Nat.zero_le _
 | t+1=>by
  rw[HQ,HQ];have:=Nat.mul_le_mul_left n (show S+HQ S n t+1<=S+HQ S n (t+1)+1 by have:=lD S n t;omega)
  omega
theorem tP (S n:Nat) {t u:Nat} (h:t<=u):HQ S n t<=HQ S n u:=by
 obtain ⟨d,rfl⟩:=Nat.exists_eq_add_of_le h;induction d with
 | zero=>exact Nat.le_refl _
 | succ d ih=>exact Nat.le_trans (ih (by omega)) (lD S n (t+d))
theorem wF {k l:Nat} {a b:List Rat} (ha:Bs k a) (hb:Bs l b) {n:Nat} (hn:b.length<=n):Bt (n*(k+l+1)) (CK a b):=by
 rw[I9];exact (hb.dot ha).le (Nat.le_trans (Nat.mul_le_mul_right _ hn) (Nat.le_of_eq (by rw[Nat.add_comm l k])))
theorem fI {S n c:Nat} {l:Rat} (hl:Bt S l) : ∀ (m:List (List Rat)) (i:Nat),m.length<=n->Ms S m->Bs (HQ S n m.length) (HK c l m i)
 | [],_,_,_=>λ x hx=>by cases hx
 | r::m,i,hn,hm=>by
  have ih:=fI (c:=c) (n:=n) hl m (i+1) (by rw[List.length_cons]at hn;omega) (λ q hq=>hm q (List.mem_cons_of_mem _ hq));have hr:Bs S r:=hm r List.mem_cons_self;have hg : ∀ j,Bt S (r.getD j 0):=λ j=>by
   have:Ms S [r]:=λ x hx=>by obtain rfl:=List.mem_singleton.1 hx;exact hr
   exact this.getD 0 j
  have h1:=wF (k:=S) (a:=r.drop (i+1)) (λ x hx=>hr x (List.mem_of_mem_drop hx)) ih (n:=n-1) (by rw[UQ];rw[List.length_cons]at hn;omega);have h2:=(((hg c).mul hl).subL h1).divL (hg i);rw[List.length_cons];intro x hx;rw[HK]at hx;rcases List.mem_cons.1 hx with rfl|hx
  ·refine h2.le ?_
   rw[HQ];obtain ⟨k,rfl⟩ : ∃ k,n=k+1:=⟨n-1,by rw[List.length_cons]at hn;omega⟩;have e:=Nat.succ_mul k (S+HQ S (k+1) m.length+1);rw[Nat.succ_eq_add_one]at e;rw[Nat.add_sub_cancel];omega
  ·exact (ih x hx).le (lD S n m.length)
end Go.Eng

namespace Go.Eng
open F
attribute [local irreducible] AH BJ B1 BD E6 CF CI CY CU DX B5 DT EN GS DS CR DR EF AR CW BW pw DC DB EP EV E7 FM EZ D5 FE
variable {L:Lib}
set_option maxHeartbeats 16000000
def cw (n:Nat) (v:List Rat):List (Option Rat):=List.replicate (n-v.length) none++v.map some
theorem vD {n:Nat} {v:List Rat} (h:v.length<=n):(cw n v).length=n:=by simp [cw];omega
theorem Sg (n:Nat):cw n []=List.replicate n none:=by simp [cw]
theorem Se {n s:Nat} {v:List Rat} {x:Rat} (h:v[s]? = some x):(cw n v)[n-v.length+s]? = some (some x):=by
 rw[cw,List.getElem?_append_right (by simp),List.length_replicate,Nat.add_sub_cancel_left,List.getElem?_map,h];rfl
theorem Qg {n:Nat} {v:List Rat} {x:Rat} (h:v.length<n):(cw n v).set (n-(v.length+1)) (some x)=cw n (x::v):=by
 obtain ⟨k,hk⟩ : ∃ k,n-v.length=k+1:=⟨n-v.length-1,by omega⟩;have e:n-(v.length+1)=k:=by omega
 simp only[cw,hk,List.length_cons,e];rw[List.replicate_succ',List.append_assoc,List.set_append_right _ _ (by simp),List.length_replicate,Nat.sub_self];rfl
theorem Sf {n:Nat} {v:List Rat} (h:v.length=n):(cw n v).map eO=v.map eQ:=by
 simp [cw,h,Function.comp_def]
theorem OW {l:List Rat} {i:Nat} (h:i<l.length):l[i]? = some (l.getD i 0):=by
 rw[List.getD_eq_getElem?_getD,zE h];rfl
theorem Vy (N:MatGLib L) (q q':Bool) (m:List (List Rat)) (n W c S:Nat) (l:Rat) (hm:m.length=n) (hW : ∀ r∈m,r.length=W) (hn:1<=n/\n<=1000) (hnW:n<=W) (hc:c<W) (hW2:W<=100000)
  (hd : ∀ (k:Nat) (r:List Rat),m[k]? = some r->r.getD k 0≠0) (hms:Ms S m) (hl:Bt S l) (hB:HQ S n n<2199023255552):Ev L 234 [.sl q (E8 q' m),.int .i64 c,.agg (eQ l)] (.sl false ((HK c l m 0).map eQ)):=by
 have hS:S<2199023255552:=by
  have:=tP S n (show 1<=n by omega)
  rw[HQ]at this;omega
 refine Ev.x N.PB rfl rfl ?_;(repeat' ((first|apply CB|apply BA)<;>conv=>whnf))
 refine GT (enc:=eO) none n rfl (by omega) (by omega) ?_;(conv=>whnf)
 (repeat' ((first|(apply D4;omega)|apply CB)<;>conv=>whnf))
 rw[hm];refine DG (λ k=>k) (λ(k:Nat)=>k<=n) (λ k=>[(8,.int .i64 ((k:Int)-1))]) (λ k=>[(13,13,.rw 3 ((cw n (HK c l (m.drop k) k)).map eO))]) [] [] n (by first|exact (by (conv=>whnf);exact ⟨rfl,rfl,rfl⟩)|(rw[List.drop_of_length_le (by omega),HK,Sg];exact (by (conv=>whnf);exact ⟨rfl,rfl,rfl⟩))) (by omega) ?_;intro k p1 kh;rcases k with _|k
 ·clear kh
  rw[List.drop_zero,Sf (by rw[UQ];exact hm)];(repeat' ((first|(apply BR<;>intro hc<;>try (exfalso;omega))|apply BA)<;>conv=>whnf))
  refine GI (enc:=eQ) (λ_=>rfl) rfl (by rw[UQ];omega) ?_;(conv=>whnf)
  exact CJ rfl (by simp only[CS,true_and];exact KM _)
 ·obtain ⟨r,hr⟩ : ∃ r,m[k]? = some r:=⟨_,zE (by omega)⟩
  have hr':m[(k:Int).toNat]? = some r:=hr;have hrl:=hW r (zM hr);have e1:((k+1:Nat):Int)-1=k:=by omega
  have hv:HK c l (m.drop k) k=(r.getD c 0*l-CK (r.drop (k+1)) (HK c l (m.drop (k+1)) (k+1)))/r.getD k 0::HK c l (m.drop (k+1)) (k+1):=by
   obtain ⟨h1,h2⟩:=zS hr;rw[List.drop_eq_getElem_cons h1,HK,h2]
  have hvl:(HK c l (m.drop (k+1)) (k+1)).length=n-(k+1):=by rw[UQ,List.length_drop,hm]
  have Jp:Bs (HQ S n (n-(k+1))) (HK c l (m.drop (k+1)) (k+1)):=by
   have:=fI (c:=c) (n:=n) hl (m.drop (k+1)) (k+1) (by rw[List.length_drop];omega) (λ r hr=>hms r (List.mem_of_mem_drop hr))
   rwa [List.length_drop,hm]at this
  have hB2:HQ S n (n-(k+1)+1)<=HQ S n n:=tP S n (by omega);rw[HQ]at hB2;have hrb:=hms.at hr;have tk:r[(c:Int).toNat]? = some (r.getD c 0):=OW (by omega);have hrk:r[(k:Int).toNat]? = some (r.getD k 0):=OW (by omega);have Ba:=hd k r hr;have bc:=hrb.at tk;have bk:=hrb.at hrk;have hM:=K3 N.toa5 bc hl hS hS;generalize hrcv:r.getD c 0=rc at *;generalize Aos:r.getD k 0=rk at *;generalize HK c l (m.drop (k+1)) (k+1)=v at *;generalize HQ S n (n-(k+1))=X at *;rw[e1];(repeat' ((first|(apply BR<;>intro hc<;>try (exfalso;omega))|(apply CG;omega)|(refine CX (by assumption) ?_ rfl ?_;omega)|apply BA|refine BH (hM) ?_)<;>conv=>whnf))
  refine I3 (λ s _=>n-s) (λ(s:Nat) (acc:Rat)=>k+1+s<=n/\acc=rc*l-CK ((r.drop (k+1)).take s) (v.take s)) (λ s _=>[(10,.int .i64 ((k+1+s:Nat):Int))]) (λ_ acc=>[(9,9,.bx (eQ acc))]) [] [] 0 (rc*l) (by (conv=>whnf);exact ⟨rfl,rfl,rfl⟩) ⟨by omega,by simp only[List.take_zero,CK];grind⟩ ?_;intro s acc ⟨p2,p3⟩ sh;have hab:Bt (2*S+(n-(k+1))*(S+X+1)+1) acc:=by
   rw[p3];have h1:=wF (k:=S) (l:=X) (a:=(r.drop (k+1)).take s) (b:=v.take s) (n:=n-(k+1)) (λ x hx=>hrb x (List.mem_of_mem_drop (List.mem_of_mem_take hx))) (Jp.take s) (by rw[List.length_take];omega);exact ((bc.mul hl).subL h1).le (by omega)
  have hmul:=Nat.mul_le_mul_right (S+X+1) (show n-(k+1)+1<=n by omega);rw[Nat.add_mul,Nat.one_mul]at hmul;have hX:X<2199023255552:=by
   have:=Nat.le_mul_of_pos_left (S+X+1) (show 0<n by omega)
   omega
  by_cases hs:k+1+s<n
  ·obtain ⟨x,hx⟩ : ∃ x,v[s]? = some x:=⟨_,zE (by omega)⟩
   obtain ⟨y,hy⟩ : ∃ y,r[k+1+s]? = some y:=⟨_,zE (by omega)⟩;have hy':r[((k+1+s:Nat):Int).toNat]? = some y:=hy;have tt:(r.drop (k+1))[s]? = some y:=by rw[List.getElem?_drop];exact hy
   have hca:=Se (n:=n) hx;rw[hvl,show n-(n-(k+1))+s=k+1+s by omega]at hca;have hcl:=vD (n:=n) (v:=v) (by omega);have by':=hrb.at hy
   have bx:=Jp.at hx;have hM2:=K3 N.toa5 by' bx hS hX
   have hSu:=nA N.too5 hab (by'.mul bx) (by omega) (by
    have:=Nat.le_mul_of_pos_left (S+X+1) (show 0<n-(k+1) by omega)
    omega)
   have hdt:=bR tt hx;generalize cw n v=C at *;(repeat' ((first|(apply BR<;>intro hc<;>try (exfalso;omega))|(apply CE;omega)|apply CB|(refine CX (by assumption) ?_ rfl ?_;omega)|apply BA)<;>conv=>whnf))
   refine aO (enc:=eO) (e:=some x) (by rw[Nat.zero_add];exact hca) rfl ?_;(conv=>whnf)
   (repeat' ((first|(apply CG;omega)|refine BH (hM2) ?_|refine BH (hSu) ?_)<;>conv=>whnf))
   refine DE [] (by (conv=>whnf);exact ⟨rfl,rfl,rfl⟩) (sh (s+1) (acc-y*x) (by omega) ⟨by omega,?_⟩);rw[hdt,p3];grind
  ·obtain rfl:s=n-(k+1):=by omega
   clear sh;have hdt:acc=rc*l-CK (r.drop (k+1)) v:=by
    rw[p3,I9,XF hvl,I9]
   have hD:=gO N.toa5 hab bk (by omega) hS Ba;have hcs:=Qg (n:=n) (v:=v) (x:=acc/rk) (by omega);rw[hvl,show n-(n-(k+1)+1)=k by omega]at hcs;have hcl:=vD (n:=n) (v:=v) (by omega);rw[<-hdt]at hv;rw[<-hv]at hcs;generalize cw n v=C at *;(repeat' ((first|(apply BR<;>intro hc<;>try (exfalso;omega))|(apply CE;omega)|apply CB|(refine CX (by assumption) ?_ rfl ?_;omega)|apply BA|refine BH (hD) ?_)<;>conv=>whnf))
   refine G8 (enc:=eO) (some (acc/rk)) rfl (λ e=>by cases e<;>rfl) (by omega) ?_;(conv=>whnf)
   rw[hcs];(repeat' ((first|(apply D4;omega)|fail)<;>conv=>whnf))
   exact C6 [] (kh k (by omega) (by omega))
end Go.Eng

namespace Go.Eng
variable {L:Lib}
def OA:C1->Bool
 | .ret=>false
 | .dr c _ _=>OA c
 | .scope c=>OA c
 | .seq a b=>OA a&&OA b
 | .cond _ a b=>OA a&&OA b
 | .block _ c=>OA c
 | .loop c=>OA c
 | _=>true
def OB:It->Bool
 | .code c=>OA c
 | .lp c=>OA c
 | _=>true
theorem cI {id:Nat} {kk:List It} : ∀ {l l':List It},GJ id l=some l'->GJ id (l++kk)=some (l'++kk)
 | [],_,h=>by cases h
 | .blk i::l,l',h=>by
  simp only[List.cons_append,GJ]at h ⊢;split at h
  ·rename_i e;rw[if_pos e];cases h;rfl
  ·rename_i e;rw[if_neg e];exact cI h
 | .code c::l,l',h=>by
  simp only[List.cons_append,GJ]at h ⊢;exact cI h
 | .er a b::l,l',h=>by
  simp only[List.cons_append,GJ]at h ⊢;exact cI h
 | .lp c::l,l',h=>by
  simp only[List.cons_append,GJ]at h ⊢;exact cI h
theorem cH {id:Nat} {p:It->Bool} : ∀ {l l':List It},GJ id l=some l'->l.all p=true->l'.all p=true
 | [],_,h,_=>by cases h
 | .blk i::l,l',h,ha=>by
  simp only[GJ]at h;simp only[List.all_cons,Bool.and_eq_true]at ha;split at h
  ·cases h;exact ha.2
  ·exact cH h ha.2
 | .code c::l,l',h,ha=>by
  simp only[GJ]at h;simp only[List.all_cons,Bool.and_eq_true]at ha;exact cH h ha.2
 | .er a b::l,l',h,ha=>by
  simp only[GJ]at h;simp only[List.all_cons,Bool.and_eq_true]at ha;exact cH h ha.2
 | .lp c::l,l',h,ha=>by
  simp only[GJ]at h;simp only[List.all_cons,Bool.and_eq_true]at ha;exact cH h ha.2
theorem MI {C:Cl} {kk:List It} {m:Nat} {CZ DP:St} (hk:run C m kk CZ=some DP) : ∀ (n:Nat) (l:List It) (st:St),l.all OB=true->run C n l st=some CZ->run C (n+m) (l++kk) st=some DP
 | 0,_,_,_,h=>by cases h
 | n+1,[],st,_,h=>by
  simp only[run,Option.some.injEq]at h;subst h;exact OG (C:=C) (C':=C) ⟨λ_ _ _ h=>h,λ_ _ _ _ h=>h,rfl⟩ (by omega) hk
 | n+1,.blk i::l,st,ha,h=>by
  simp only[List.all_cons,Bool.and_eq_true]at ha;rw[show n+1+m=n+m+1 by omega];simp only[List.cons_append,run]at h ⊢;exact MI hk n l st ha.2 h
 | n+1,.er ts ss::l,st,ha,h=>by
  simp only[List.all_cons,Bool.and_eq_true]at ha;rw[show n+1+m=n+m+1 by omega];simp only[List.cons_append,run]at h ⊢;exact MI hk n l _ ha.2 h
 | n+1,.lp c::l,st,ha,h=>by
  rw[show n+1+m=n+m+1 by omega];simp only[List.cons_append,run]at h ⊢;exact MI hk n (.code c :: .lp c::l) st (by simp only[List.all_cons,OB,Bool.and_eq_true]at ha ⊢;exact ⟨ha.1,ha.1,ha.2⟩) h
 | n+1,.code c::l,st,ha,h=>by
  simp only[List.all_cons,OB,Bool.and_eq_true]at ha;obtain ⟨h1,h2⟩:=ha;rw[show n+1+m=n+m+1 by omega];cases c with
  | ret=>cases h1
  | skip =>
   simp only[List.cons_append,run]at h ⊢;exact MI hk n l st h2 h
  | ops o d =>
   simp only[List.cons_append,run]at h ⊢;cases hs:FP C o st with
   | none=>rw[hs]at h;cases h
   | some s'=>rw[hs]at h;exact MI hk n l s' h2 h
  | dr c ts ss =>
   simp only[List.cons_append,run]at h ⊢;exact MI hk n (.code c :: .er ts ss::l) st (by simp only[List.all_cons,OB,Bool.and_eq_true];exact ⟨h1,trivial,h2⟩) h
  | scope c =>
   simp only[List.cons_append,run]at h ⊢;exact MI hk n (.code c::l) st (by simp only[List.all_cons,OB,Bool.and_eq_true];exact ⟨h1,h2⟩) h
  | seq a b =>
   simp only[OA,Bool.and_eq_true]at h1;simp only[List.cons_append,run]at h ⊢;exact MI hk n (.code a :: .code b::l) st (by simp only[List.all_cons,OB,Bool.and_eq_true];exact ⟨h1.1,h1.2,h2⟩) h
  | cond x a b =>
   simp only[OA,Bool.and_eq_true]at h1;simp only[List.cons_append,run]at h ⊢;split at h
   ·exact MI hk n (.code a::l) st (by simp only[List.all_cons,OB,Bool.and_eq_true];exact ⟨h1.1,h2⟩) h
   ·exact MI hk n (.code b::l) st (by simp only[List.all_cons,OB,Bool.and_eq_true];exact ⟨h1.2,h2⟩) h
   ·cases h
  | block i c =>
   simp only[List.cons_append,run]at h ⊢;exact MI hk n (.code c :: .blk i::l) st (by simp only[List.all_cons,OB,Bool.and_eq_true];exact ⟨h1,trivial,h2⟩) h
  | loop c =>
   simp only[List.cons_append,run]at h ⊢;exact MI hk n (.code c :: .lp c::l) st (by simp only[List.all_cons,OB,Bool.and_eq_true];exact ⟨h1,h1,h2⟩) h
  | exit i =>
   simp only[List.cons_append,run]at h ⊢;cases he:GJ i l with
   | none=>rw[he]at h;cases h
   | some l' =>
    rw[he]at h;rw[cI he];exact MI hk n l' st (cH he h2) h
theorem VP {l kk:List It} {tm:Tm} {M:Mem} {Q:Tm->Mem->Prop} (hn:l.all OB=true) (h:AH L l tm M (λ tm M=>AH L kk tm M Q)):AH L (l++kk) tm M Q:=by
 intro σ st hr;obtain ⟨n,c,CZ,h1,σ1,Ko,M1,w8,h2⟩:=h σ st hr;obtain ⟨m,c2,DP,h3,h4⟩:=h2 σ1 CZ w8;obtain ⟨c3,g1,g2⟩ : ∃ c3,(FH L c).le (FH L c3)/\(FH L c2).le (FH L c3):=⟨max c c2,IK (Nat.le_max_left _ _),IK (Nat.le_max_right _ _)⟩;exact ⟨n+m,c3,DP,MI (OG g2 (Nat.le_refl _) h3) n l st hn (OG g1 (Nat.le_refl _) h1),h4⟩
structure eC (p:Prop):Prop where
 go ::
 out:p
theorem Kt {α β γ:Type} {l kk:List It} {tm:Tm} {M:Mem} {Q:Tm->Mem->Prop} (P:α->β->γ->Prop) (vs:α->β->γ->Tm) (Ms:α->β->γ->Mem) (ts:List Nat) (hn:l.all OB=true)
  (hr : ∀ a b c,P a b c->AH L kk (vs a b c++u6 ts tm) (Ms a b c++M) Q)
  (h:(∀ a b c,P a b c->AH L kk (vs a b c++u6 ts tm) (Ms a b c++M) Q)->AH L l tm M (λ tm M=>eC (AH L kk tm M Q))):AH L (l++kk) tm M Q:=by
 refine VP hn ?_;intro σ st hs;obtain ⟨n,c,CZ,h1,σ1,Ko,M1,w8,h2⟩:=h hr σ st hs;exact ⟨n,c,CZ,h1,σ1,Ko,M1,w8,h2.out⟩
end Go.Eng

namespace Go.Eng
open F
attribute [local irreducible] AH BJ B1 BD E6 CF CI CY CU DX B5 DT EN GS DS CR DR EF AR CW BW pw DC DB EP EV E7 FM EZ D5 FE
variable {L:Lib}
set_option maxHeartbeats 16000000
theorem vM:dg 1=[1]:=by rw[L5 (by decide)];simp [HR]
theorem mK (N:a5 L) {s:Rat} {a l d:Nat} (q:Bool) (hs:Bt a s) (hd:d<=2^l) (ha:a<2199023255552) (hl:l<2199023255552):Ev L 99 [.agg (eQ s),.agg [.bool false,.sl false ((dg d).map BZ),.sl q [[.int .u32 1]]]] (.agg (eQ (s*((d:Nat):Rat)))):=by
 have gy:Bt l ((d:Nat):Rat):=⟨by simpa using hd,by simpa using Nat.one_le_two_pow⟩;have e:=IA ((d:Nat):Rat);have h1:=(gy.sm hl).1;have h2:=(gy.sm hl).2;rw[Rat.num_natCast,Rat.den_natCast,Int.natAbs_natCast,show decide ((d:Int)<0)=false by simp,vM]at e;rw[Rat.num_natCast,Int.natAbs_natCast]at h1;rw[Rat.den_natCast,vM]at h2;have h:=yA N 68719476736 (by omega) (decide (s.num<0)) false false false false q _ _ (dg d) [1] (hs.sm ha).1 (hs.sm ha).2 h1 h2;rw[IA,e]at h;exact h
theorem Hb {N i k:Nat} (hk:k<N) : ∀ t,t∈(List.range N).set i k->t<N:=λ t ht=>by
 rcases List.mem_or_eq_of_mem_set ht with h|h
 ·exact List.mem_range.1 h
 ·omega
theorem PM {z:Nat} {m:List (List Rat)} {i:Nat} {r:List Rat} (h:m[i]? = some r):(C7 z eQ m)[i]? = some (some (z,r.map eQ)):=by
 rw[C7,List.getElem?_map,h];rfl
theorem Cy {z:Nat} {m:List (List Rat)} {i j:Nat} {a b:List Rat}:((C7 z eQ m).set i (some (z,b.map eQ))).set j (some (z,a.map eQ))=C7 z eQ ((m.set i b).set j a):=by
 simp only[C7,List.map_set]
theorem Y4 {R:List (Option (Nat × List (List AV)))} {e z:Nat} {es:List (List AV)} {K:Nat->List (List AV)->Prop} (h:R[e]? = some (some (z,es))) (hk:K z es):DB R e K:=by
 unfold DB;exact ⟨z,es,h,hk⟩
theorem dJ {α:Type} {l:List α} {i:Nat} {x:α} (h:l[i]? = some x):l.set i x=l:=by
 obtain ⟨h1,rfl⟩:=zS h;exact List.set_getElem_self h1
theorem AjN {a b:List Rat} {c:Nat} (hl:a.length=b.length) (h : ∀ j,j<c->a.getD j 0=0/\b.getD j 0=0):a.take c++b.drop c=b:=by
 have e:a.take c=b.take c:=by
  refine List.ext_getElem? λ j => ?_
  rw[List.getElem?_take,List.getElem?_take];by_cases hj:j<c
  ·rw[if_pos hj,if_pos hj]
   obtain ⟨h1,h2⟩:=h j hj;rw[List.getD_eq_getElem?_getD]at h1 h2;by_cases hl2:j<a.length
   ·rw[zE hl2,zE (by omega)]at *
    simp only[Option.getD_some]at h1 h2;rw[h1,h2]
   ·rw[List.getElem?_eq_none (by omega),List.getElem?_eq_none (by omega)]
  ·rw[if_neg hj,if_neg hj]
 rw[e,List.take_append_drop]
theorem Zy {a b:List Rat} {j:Nat} {x:Rat} (hl:a.length=b.length) (hx:b[j]? = some x):(a.take j++b.drop j)[j]? = some x:=by
 have h1:=(zS hx).1;have ht:(a.take j).length=j:=by rw[List.length_take];omega
 rw[List.getElem?_append_right (by omega),ht,Nat.sub_self,List.getElem?_drop];exact hx
theorem Zz {a b:List Rat} {j:Nat} {y:Rat} (hl:a.length=b.length) (hy:a[j]? = some y):(a.take j++b.drop j).set j y=a.take (j+1)++b.drop (j+1):=by
 have h1:=(zS hy).1;have ht:(a.take j).length=j:=by rw[List.length_take];omega
 rw[List.set_append_right _ _ (by omega),ht,Nat.sub_self,List.drop_eq_getElem_cons (by omega),List.set_cons_zero,LC hy,List.append_assoc];rfl
theorem wS {m0 m a b:List (List Rat)} {K n w c:Nat} {P:List Nat} {odd:Bool} {l:Rat} (hE:JW m0 K (n+w) n m P c odd l) (hs:aT m0 (E1 a b)) (hl:a.length=b.length) (ha : ∀ r∈a,r.length=n) (hal:a.length=n) (hend:n<=c\/n<=P.length):P.length=n↔NS n a:=by
 have Ac:GZ m (n+w) n P:=by
  have hc:=hE.cc;rcases hend with h|h
  ·obtain rfl:c=n:=by omega
   exact hE.ech
  ·have h1:=hE.ech.pl
   have h2:=hE.len;have h3:=hs.1;simp only[E1,List.length_zipWith]at h3;exact hE.ech.wide (by omega) hc
 exact Aki Ac (λ X=>(hE.ker X).trans (hs.ker X)) hl ha
end Go.Eng

namespace Go.Eng
structure Pt where
 x:Rat
 y:Rat
 w:Rat
def Ak7 (g:List Pt) (f:Pt->Rat):Rat:=g.foldl (λ s p=>s+f p) 0
def rhs (g:List Pt) (k:Nat):Rat:=Ak7 g λ p=>p.w*p.x^k*p.y
theorem Alm {r:List Rat} (h:GM r=r) (hn:r.length≠0):r.getD (r.length-1) 0≠0:=by
 have hl:=aC r;rw[h]at hl;obtain ⟨n,jo⟩ : ∃ n,r.length=n+1:=⟨r.length-1,by omega⟩;rw[jo,FY]at hl;rw[jo,Nat.add_sub_cancel];intro h0;rw[if_pos h0]at hl;have:=UT r n
 omega
def G9 (B A:List Rat) (n:Nat):GU where
 a:=(List.range n).map λ i=>if i=0 then (List.range n).map λ k => -(A.getD (k+1) 0) else FV n ((i-1:Nat):Int)
 b:=FV n 0
 c:=(List.range n).map λ i=>B.getD (i+1) 0-B.getD 0 0*A.getD (i+1) 0
 d:=B.getD 0 0
end Go.Eng

namespace Go.Eng
section
variable {M ky:Nat} {g:List Pt}
end
end Go.Eng

namespace Go.Eng
open F
attribute [local irreducible] AH BJ B1 BD E6 CF CI CY CU DX B5 DT EN GS DS CR DR EF AR CW BW pw DC DB EP EV E7 FM EZ D5 FE
variable {L:Lib}
set_option maxHeartbeats 16000000
theorem Vw (N:StGLib L) (m:Nat) (hm:m<=65536):UE L 206 [.int .i64 (m:Int)] 3 ((List.replicate m (0:Rat)).map eQ):=by
 have hO:=LK N.toa5 0 (by omega);refine UE.x N.TB rfl rfl ?_;(repeat' (apply BA<;>conv=>whnf))
 refine GT (enc:=eO) none m rfl rfl (by omega) ?_;(conv=>whnf)
 skip
 refine DG (λ i=>m-i) (λ(i:Nat)=>i<=m) (λ i=>[(8,.int .i64 i)]) (λ i=>[(6,6,.rw 3 ((FR (List.replicate i 0) m).map eO))]) [] [] 0 (by first|exact (by (conv=>whnf);exact ⟨rfl,rfl,rfl⟩)|(rw[<-KO];exact (by (conv=>whnf);exact ⟨rfl,rfl,rfl⟩))) (by omega) ?_;intro i p1 ih;by_cases hi:i<m
 ·have hl:=JM (l:=List.replicate i (0:Rat)) (m:=m) (by simp;omega)
  have hs:=KP (l:=List.replicate i (0:Rat)) (m:=m) (x:=0) (by simp;omega);rw[List.length_replicate]at hs;(repeat' ((first|(apply BR<;>intro hc<;>try (exfalso;omega))|(apply CE;omega)|apply BA|refine BH (hO) ?_)<;>conv=>whnf))
  refine G8 (enc:=eO) (some 0) rfl (λ e=>by cases e<;>rfl) (by omega) ?_;(conv=>whnf)
  (repeat' ((first|(apply CG;omega)|fail)<;>conv=>whnf))
  rw[hs];rw[show List.replicate i (0:Rat)++[0]=List.replicate (i+1) 0 by rw[List.replicate_succ']];exact C6 [] (ih (i+1) (by omega) (by omega))
 obtain rfl:i=m:=by omega
 clear ih;rw[K4 (by simp)];(repeat' ((first|(apply BR<;>intro hc<;>try (exfalso;omega))|apply BA)<;>conv=>whnf))
 exact ⟨rfl,rfl,by simp,rfl,KM _⟩
theorem mZ (N:StGLib L) (q:Bool) (l:List Rat) (i:Int) (k:Nat) (h0:0<=i) (hl:Bs k l) (hk:k<2199023255552) (hn:l.length<=1000000):Ev L 205 [.sl q (l.map eQ),.int .i64 i] (.agg (eQ (l.getD i.toNat 0))):=by
 have hO:=LK N.toa5 0 (by omega);refine Ev.x N.S2 rfl rfl ?_;by_cases hi:i<l.length
 ·obtain ⟨x,hx⟩ : ∃ x,l[i.toNat]? = some x:=⟨_,zE (by omega)⟩
  have hT:=XM N.toa5 (hl.at hx) hk;rw[T7 hx];(repeat' ((first|(apply BR<;>intro hc<;>try (exfalso;omega))|apply CB|(refine CX (by assumption) ?_ rfl ?_;omega)|apply BA|refine BH (hT) ?_)<;>conv=>whnf))
  exact CJ rfl (G4 _)
 ·rw[nM (l:=l) (by omega)]
  (repeat' ((first|(apply BR<;>intro hc<;>try (exfalso;omega))|apply CB|apply BA|refine BH (hO) ?_)<;>conv=>whnf))
  exact CJ rfl (G4 _)
theorem yC (N:StGLib L) (q:Bool) (l:List Rat) (k:Nat) (ht:GM l=l) (hl:Bs k l) (hk:k<2199023255552) (hn:l.length<=1000000):Ev L 204 [.sl q (l.map eQ)] (.int .i64 ((l.length-1:Nat):Int)):=by
 refine Ev.x N.S6 rfl rfl ?_;(repeat' ((first|(apply D4;omega)|apply CB|apply BA)<;>conv=>whnf))
 refine WS ?_;by_cases h2:l.length<=1
 ·(repeat' ((first|(apply BR<;>intro hc<;>try (exfalso;omega))|apply BA)<;>conv=>whnf))
  exact FF (by omega)
 ·obtain ⟨x,hx⟩ : ∃ x,l[l.length-1]? = some x:=⟨_,zE (by omega)⟩
  have hx':l[((l.length:Int)-1).toNat]? = some x:=by rw[show ((l.length:Int)-1).toNat=l.length-1 by omega];exact hx
  have Jr:=Alm ht (by omega);rw[T7 hx]at Jr;have hS:=N1 N.toa5 (hl.at hx) hk;have hs:=OJ (x:=x);generalize sgn x.num=s at *;have hs0:s≠0:=λ h=>Jr (hs.1 h)
  (repeat' ((first|(apply BR<;>intro hc<;>try (exfalso;omega))|(refine CX (by assumption) ?_ rfl ?_;omega)|apply BA|refine BH (hS) ?_)<;>conv=>whnf))
  exact FF (by omega)
theorem Vs (N:StGLib L) (q1 q2:Bool) (B A:List Rat) (k:Nat) (hB:Bs k B) (hA:Bs k A) (hk:k<2199023255552) (lB:B.length<=49) (lA:A.length<=49) (h0:A[0]? = some 1):Ev L 201 [.agg [.sl q1 (B.map eQ),.sl q2 (A.map eQ)]] (.bool true):=by
 have c1:=UT B B.length;have c2:=UT A A.length;have kp:=xO N q1 B k hB hk (by omega);have kt:=xO N q2 A k hA hk (by omega);have hO:=LK N.toa5 1 (by omega);have hC:=Vx N (Bt.one 1) (Bt.one 1) (by omega) (by omega);rw[dL.2 rfl]at hC;have hAl:0<A.length:=(zS h0).1;have nf:A[(0:Int).toNat]? = some 1:=h0;generalize FY B B.length=d1 at *;generalize FY A A.length=d2 at *;refine Ev.x N.SM rfl rfl ?_;(repeat' ((first|(apply BR<;>intro hc<;>try (exfalso;omega))|apply CB|(refine CX (by assumption) ?_ rfl ?_;omega)|apply BA|refine BH (kp) ?_|refine BH (kt) ?_|refine BH (hO) ?_|refine BH (hC) ?_)<;>conv=>whnf))
 exact I4 rfl
theorem Rt (B A:List Rat) (m:Nat):(G9 B A (m+1)).a.take 1=[(List.range (m+1)).map λ k => -(A.getD (k+1) 0)]:=by
 simp [G9,List.range_succ_eq_map]
theorem Ru {B A:List Rat} {n i:Nat} (h1:1<=i) (hi:i<n):(G9 B A n).a[i]? = some (FV n ((i-1:Nat):Int)):=by
 simp only[G9,List.getElem?_map,List.getElem?_range hi,Option.map_some];rw[if_neg (by omega)]
theorem uX {B A:List Rat} {n i:Nat} (hi:i<n):(G9 B A n).c[i]? = some (B.getD (i+1) 0-B.getD 0 0*A.getD (i+1) 0):=by
 simp only[G9,List.getElem?_map,List.getElem?_range hi,Option.map_some]
theorem Rv (B A:List Rat) (m:Nat):(G9 B A (m+1)).c.take 1=[B.getD 1 0-B.getD 0 0*A.getD 1 0]:=by
 rw[List.take_add_one,uX (by omega)];rfl
theorem uW (B A:List Rat) (n:Nat):(G9 B A n).a.length=n:=by simp [G9]
theorem uY (B A:List Rat) (n:Nat):(G9 B A n).c.length=n:=by simp [G9]
theorem dS {α:Type} {l:List α} {i:Nat} {x:α} (h:l[i]? = some x):l.take (i+1)=l.take i++[x]:=by
 rw[List.take_add_one,h];rfl
theorem bC (S:GU) (e:Int):CS (.tup [.agg (eS S),.int .i64 e]):=by
 have:=fS S
 simp only[CS,FG,true_and,and_true]at this ⊢;exact this
theorem Tn (N:StGLib L) (w1 w2:Bool) (B A:List Rat) (n k:Nat) (hB:GM B=B) (hA:GM A=A) (bB:Bs k B) (bA:Bs k A) (lB:B.length<=17) (lA:A.length<=17) (h0:A[0]? = some 1) (hn:max (B.length-1) (A.length-1)=n) (hk:k<=1000000) :
  Ev L 207 [.agg [.sl w1 (B.map eQ),.sl w2 (A.map eQ)]] (.tup [.agg (eS (G9 B A n)),.int .i64 0]):=by
 have hV:=Vs N w1 w2 B A k bB bA (by omega) (by omega) (by omega) h0;have kp:=yC N w1 B k hB bB (by omega) (by omega);have kt:=yC N w2 A k hA bA (by omega) (by omega);have hO:=LK N.toa5 1 (by omega);have hB0:=mZ N w1 B 0 k (by omega) bB (by omega) (by omega);rw[show B.getD (0:Int).toNat 0=B.getD 0 0 from rfl]at hB0;have hZ:=Vw N n (by omega);have Ih:Bt k (B.getD 0 0):=N4 bB 0;have ox : ∀ i:Nat,Ev L 205 [.sl w1 (B.map eQ),.int .i64 ((i:Int)+1)] (.agg (eQ (B.getD (i+1) 0)))/\Ev L 205 [.sl w2 (A.map eQ),.int .i64 ((i:Int)+1)] (.agg (eQ (A.getD (i+1) 0))) /\
   Ev L 99 [.agg (eQ (B.getD 0 0)),.agg (eQ (A.getD (i+1) 0))] (.agg (eQ (B.getD 0 0*A.getD (i+1) 0)))/\Ev L 150 [.agg (eQ (B.getD (i+1) 0)),.agg (eQ (B.getD 0 0*A.getD (i+1) 0))] (.agg (eQ (B.getD (i+1) 0-B.getD 0 0*A.getD (i+1) 0))) /\
   Ev L 199 [.agg (eQ (A.getD (i+1) 0))] (.agg (eQ (-(A.getD (i+1) 0)))):=λ i=>by
  have e1:=mZ N w1 B ((i:Int)+1) k (by omega) bB (by omega) (by omega);have e2:=mZ N w2 A ((i:Int)+1) k (by omega) bA (by omega) (by omega);rw[show ((i:Int)+1).toNat=i+1 by omega]at e1 e2;exact ⟨e1,e2,K3 N.toa5 Ih (N4 bA _) (by omega) (by omega),nA N.too5 (N4 bB _) (Ih.mul (N4 bA _)) (by omega) (by omega),Wr N (N4 bA _) (by omega)⟩
 have hd:(G9 B A n).d=B.getD 0 0:=rfl;have hal:=uW B A n;have hcl:=uY B A n;have iz:eS (G9 B A n)=[.sl false ((G9 B A n).a.map λ r=>[AV.sl false (r.map eQ)]),.sl false ((FV n 0).map eQ),.sl false ((G9 B A n).c.map eQ)]++eQ (B.getD 0 0):=rfl;have hfin:=bC (G9 B A n) 0;rw[iz]at hfin ⊢;have Iq : ∀ i,1<=i->i<n->(G9 B A n).a[i]? = some (FV n ((i-1:Nat):Int)):=λ i h1 h2=>Ru h1 h2
 have hci : ∀ i,i<n->(G9 B A n).c[i]? = some (B.getD (i+1) 0-B.getD 0 0*A.getD (i+1) 0):=λ i h=>uX h
 have xp:0<n->(G9 B A n).a.take 1=[(List.range n).map λ k => -(A.getD (k+1) 0)]:=λ h=>by
  obtain ⟨m,rfl⟩ : ∃ m,n=m+1:=⟨n-1,by omega⟩;exact Rt B A m
 have hc1:0<n->(G9 B A n).c.take 1=[B.getD (0+1) 0-B.getD 0 0*A.getD (0+1) 0]:=λ h=>by
  obtain ⟨m,rfl⟩ : ∃ m,n=m+1:=⟨n-1,by omega⟩;exact Rv B A m
 have hr0 : ∀ j,j<n->((List.range n).map λ k => -(A.getD (k+1) 0))[j]? = some (-(A.getD (j+1) 0)):=λ j h=>by
  rw[List.getElem?_map,List.getElem?_range h];rfl
 have vq:((List.range n).map λ k => -(A.getD (k+1) 0)).length=n:=by simp
 have hul : ∀ j,(FV n j).length=n:=λ j=>TD n j
 generalize (G9 B A n).a=a at *;generalize (G9 B A n).c=c at *;generalize (List.range n).map (λ k => -(A.getD (k+1) 0))=r0 at *;generalize B.getD 0 0=b0 at *;rcases Nat.lt_or_ge (B.length-1) (A.length-1) with l6|gb
 ·rw[show A.length-1=n by omega]at kt l6
  refine Ev.x N.ND rfl rfl ?_;(repeat' ((first|(apply BR<;>intro hc<;>try (exfalso;omega))|apply BA|refine BH (hV) ?_|refine BH (kp) ?_|refine BH (kt) ?_|refine BH (hB0) ?_)<;>conv=>whnf))
  refine UD (enc:=eQ) n hZ (by simp) ?_;(conv=>whnf)
  by_cases pd:n=0
  ·skip
   exact absurd l6 (by omega)
  ·(repeat' ((first|(apply BR<;>intro hc<;>try (exfalso;omega))|(apply CE;omega)|refine BH (hO) ?_)<;>conv=>whnf))
   refine ZA (enc:=eQ) 0 1 rfl rfl (λ_=>rfl) (by simp;omega) ?_;(conv=>whnf)
   rw[show (List.replicate n (0:Rat)).set 0 1=FV n 0 from YR n 0];skip
   refine WS ?_;(repeat' ((first|(apply BR<;>intro hc<;>try (exfalso;omega))|apply BA)<;>conv=>whnf))
   refine UD (enc:=eQ) n hZ (by simp) ?_;(conv=>whnf)
   (repeat' ((first|(apply BR<;>intro hc<;>try (exfalso;omega))|fail)<;>conv=>whnf))
   refine DG (λ j=>n-j) (λ(j:Nat)=>j<=n) (λ j=>[(50,.int .i64 j)]) (λ j=>[(41,41,.rw 3 ((cz r0 n j).map eQ))]) [] [] 0 (by first|exact (by (conv=>whnf);exact ⟨rfl,rfl,rfl⟩)|(rw[vH];exact (by (conv=>whnf);exact ⟨rfl,rfl,rfl⟩))) (by omega) ?_;intro j p1 ih;have kv:=vF (row:=r0) p1;by_cases hj:j<n
   ·have hst:=vG (hr0 j hj) hj
    obtain ⟨f1,f2,f3,f4,f5⟩:=ox j;(repeat' ((first|(apply BR<;>intro hc<;>try (exfalso;omega))|(apply CE;omega)|(apply CG;omega)|apply BA|refine BH (f2) ?_|refine BH (f5) ?_)<;>conv=>whnf))
    refine G8 (enc:=eQ) (-(A.getD (j+1) 0)) rfl (λ_=>rfl) (by omega) ?_;(conv=>whnf)
    (repeat' ((first|(apply CG;omega)|fail)<;>conv=>whnf))
    rw[hst];exact C6 [] (ih (j+1) (by omega) (by omega))
   obtain rfl:j=n:=by omega
   clear ih;rw[vE vq];obtain ⟨f1,f2,f3,f4,f5⟩:=ox 0;(repeat' ((first|(apply BR<;>intro hc<;>try (exfalso;omega))|apply BA)<;>conv=>whnf))
   refine CE ⟨by rw[List.length_map];omega,by omega⟩ ?_;(conv=>whnf)
   (repeat' ((first|(apply CG;omega)|apply G0|refine BH (hB0) ?_|refine BH (f1) ?_|refine BH (f2) ?_|refine BH (f3) ?_|refine BH (f4) ?_)<;>conv=>whnf))
   refine Y1 (enc:=eQ) (B.getD (0+1) 0-b0*A.getD (0+1) 0) rfl rfl (by omega) ?_;(conv=>whnf)
   (repeat' ((first|(apply CG;omega)|fail)<;>conv=>whnf))
   refine DG (λ i=>j-i) (λ(i:Nat)=>1<=i/\i<=j) (λ i=>[(37,.int .i64 i)]) (λ i=>[(5,5,.bx ([.row 67 0 1 0 i,.row 28 0 3 0 j,.row 88 0 3 0 i]++eQ b0)),(67,67,.mx (C7 3 eQ (a.take i))),(88,88,.rw 3 ((c.take i).map eQ))]) [] [] 1 (by first|exact (by (conv=>whnf);exact ⟨rfl,rfl,rfl⟩)|(rw[xp (by omega),hc1 (by omega)];exact (by (conv=>whnf);exact ⟨rfl,rfl,rfl⟩))) (by omega) ?_;intro i ⟨g1,g2⟩ ih;have qm:(a.take i).length=i:=by rw[List.length_take];omega
   have qt:(c.take i).length=i:=by rw[List.length_take];omega
   by_cases hi:i<j
   ·obtain ⟨f1,f2,f3,f4,f5⟩:=ox i
    have hsa:=dS (Iq i g1 hi);have Be:=dS (hci i hi);have qo:(a.take (i+1)).length=i+1:=by rw[List.length_take];omega
    have qu:(c.take (i+1)).length=i+1:=by rw[List.length_take];omega
    have Bm:=hul ((i-1:Nat):Int);(repeat' ((first|(apply BR<;>intro hc<;>try (exfalso;omega))|apply BA)<;>conv=>whnf))
    refine UD (enc:=eQ) j hZ (by simp) ?_;(conv=>whnf)
    (repeat' ((first|(apply BR<;>intro hc<;>try (exfalso;omega))|(apply CE;omega)|(apply D4;omega)|refine BH (hO) ?_)<;>conv=>whnf))
    refine ZA (enc:=eQ) (i-1) 1 (by omega) rfl (λ_=>rfl) (by simp;omega) ?_;(conv=>whnf)
    rw[YR];skip
    refine CE (by rw[List.length_map];omega) ?_;refine Y0 (r:=FV j ((i-1:Nat):Int)) (en:=eQ) qm.symm (by omega) (by omega) ?_;rw[<-hsa,qo];(conv=>whnf)
    (repeat' ((first|(apply CG;omega)|apply G0|refine BH (hB0) ?_|refine BH (f1) ?_|refine BH (f2) ?_|refine BH (f3) ?_|refine BH (f4) ?_)<;>conv=>whnf))
    refine HP (enc:=eQ) (B.getD (i+1) 0-b0*A.getD (i+1) 0) rfl qt.symm rfl (by omega) (by omega) ?_;rw[<-Be,qu];(conv=>whnf)
    (repeat' ((first|(apply CG;omega)|fail)<;>conv=>whnf))
    exact C6 [(67,1000067),(88,1000088)] (ih (i+1) (by omega) (by omega))
   obtain rfl:i=j:=by omega
   clear ih;rw[List.take_of_length_le (Nat.le_of_eq hal),List.take_of_length_le (Nat.le_of_eq hcl)]at *;(repeat' ((first|(apply BR<;>intro hc<;>try (exfalso;omega))|apply BA)<;>conv=>whnf))
   refine NT (λ_=>rfl) rfl hal.symm ?_;(conv=>whnf)
   refine GI (enc:=eQ) (λ_=>rfl) rfl (hul 0).symm ?_;(conv=>whnf)
   refine GI (enc:=eQ) (λ_=>rfl) rfl hcl.symm ?_;(conv=>whnf)
   exact CJ rfl hfin
 ·rw[show B.length-1=n by omega]at kp gb
  refine Ev.x N.ND rfl rfl ?_;(repeat' ((first|(apply BR<;>intro hc<;>try (exfalso;omega))|apply BA|refine BH (hV) ?_|refine BH (kp) ?_|refine BH (kt) ?_|refine BH (hB0) ?_)<;>conv=>whnf))
  refine UD (enc:=eQ) n hZ (by simp) ?_;(conv=>whnf)
  by_cases pd:n=0
  ·skip
   subst pd;(repeat' ((first|(apply BR<;>intro hc<;>try (exfalso;omega))|fail)<;>conv=>whnf))
   refine WS ?_;(repeat' ((first|(apply BR<;>intro hc<;>try (exfalso;omega))|(refine GI (λ_=>rfl) rfl ?_ ?_;(first|rfl|simp))|apply BA)<;>conv=>whnf))
   rw[List.eq_nil_of_length_eq_zero hal,List.eq_nil_of_length_eq_zero hcl]at *;exact CJ rfl hfin
  ·(repeat' ((first|(apply BR<;>intro hc<;>try (exfalso;omega))|(apply CE;omega)|refine BH (hO) ?_)<;>conv=>whnf))
   refine ZA (enc:=eQ) 0 1 rfl rfl (λ_=>rfl) (by simp;omega) ?_;(conv=>whnf)
   rw[show (List.replicate n (0:Rat)).set 0 1=FV n 0 from YR n 0];skip
   refine WS ?_;(repeat' ((first|(apply BR<;>intro hc<;>try (exfalso;omega))|apply BA)<;>conv=>whnf))
   refine UD (enc:=eQ) n hZ (by simp) ?_;(conv=>whnf)
   (repeat' ((first|(apply BR<;>intro hc<;>try (exfalso;omega))|fail)<;>conv=>whnf))
   refine DG (λ j=>n-j) (λ(j:Nat)=>j<=n) (λ j=>[(50,.int .i64 j)]) (λ j=>[(41,41,.rw 3 ((cz r0 n j).map eQ))]) [] [] 0 (by first|exact (by (conv=>whnf);exact ⟨rfl,rfl,rfl⟩)|(rw[vH];exact (by (conv=>whnf);exact ⟨rfl,rfl,rfl⟩))) (by omega) ?_;intro j p1 ih;have kv:=vF (row:=r0) p1;by_cases hj:j<n
   ·have hst:=vG (hr0 j hj) hj
    obtain ⟨f1,f2,f3,f4,f5⟩:=ox j;(repeat' ((first|(apply BR<;>intro hc<;>try (exfalso;omega))|(apply CE;omega)|(apply CG;omega)|apply BA|refine BH (f2) ?_|refine BH (f5) ?_)<;>conv=>whnf))
    refine G8 (enc:=eQ) (-(A.getD (j+1) 0)) rfl (λ_=>rfl) (by omega) ?_;(conv=>whnf)
    (repeat' ((first|(apply CG;omega)|fail)<;>conv=>whnf))
    rw[hst];exact C6 [] (ih (j+1) (by omega) (by omega))
   obtain rfl:j=n:=by omega
   clear ih;rw[vE vq];obtain ⟨f1,f2,f3,f4,f5⟩:=ox 0;(repeat' ((first|(apply BR<;>intro hc<;>try (exfalso;omega))|apply BA)<;>conv=>whnf))
   refine CE ⟨by rw[List.length_map];omega,by omega⟩ ?_;(conv=>whnf)
   (repeat' ((first|(apply CG;omega)|apply G0|refine BH (hB0) ?_|refine BH (f1) ?_|refine BH (f2) ?_|refine BH (f3) ?_|refine BH (f4) ?_)<;>conv=>whnf))
   refine Y1 (enc:=eQ) (B.getD (0+1) 0-b0*A.getD (0+1) 0) rfl rfl (by omega) ?_;(conv=>whnf)
   (repeat' ((first|(apply CG;omega)|fail)<;>conv=>whnf))
   refine DG (λ i=>j-i) (λ(i:Nat)=>1<=i/\i<=j) (λ i=>[(37,.int .i64 i)]) (λ i=>[(5,5,.bx ([.row 67 0 1 0 i,.row 28 0 3 0 j,.row 88 0 3 0 i]++eQ b0)),(67,67,.mx (C7 3 eQ (a.take i))),(88,88,.rw 3 ((c.take i).map eQ))]) [] [] 1 (by first|exact (by (conv=>whnf);exact ⟨rfl,rfl,rfl⟩)|(rw[xp (by omega),hc1 (by omega)];exact (by (conv=>whnf);exact ⟨rfl,rfl,rfl⟩))) (by omega) ?_;intro i ⟨g1,g2⟩ ih;have qm:(a.take i).length=i:=by rw[List.length_take];omega
   have qt:(c.take i).length=i:=by rw[List.length_take];omega
   by_cases hi:i<j
   ·obtain ⟨f1,f2,f3,f4,f5⟩:=ox i
    have hsa:=dS (Iq i g1 hi);have Be:=dS (hci i hi);have qo:(a.take (i+1)).length=i+1:=by rw[List.length_take];omega
    have qu:(c.take (i+1)).length=i+1:=by rw[List.length_take];omega
    have Bm:=hul ((i-1:Nat):Int);(repeat' ((first|(apply BR<;>intro hc<;>try (exfalso;omega))|apply BA)<;>conv=>whnf))
    refine UD (enc:=eQ) j hZ (by simp) ?_;(conv=>whnf)
    (repeat' ((first|(apply BR<;>intro hc<;>try (exfalso;omega))|(apply CE;omega)|(apply D4;omega)|refine BH (hO) ?_)<;>conv=>whnf))
    refine ZA (enc:=eQ) (i-1) 1 (by omega) rfl (λ_=>rfl) (by simp;omega) ?_;(conv=>whnf)
    rw[YR];skip
    refine CE (by rw[List.length_map];omega) ?_;refine Y0 (r:=FV j ((i-1:Nat):Int)) (en:=eQ) qm.symm (by omega) (by omega) ?_;rw[<-hsa,qo];(conv=>whnf)
    (repeat' ((first|(apply CG;omega)|apply G0|refine BH (hB0) ?_|refine BH (f1) ?_|refine BH (f2) ?_|refine BH (f3) ?_|refine BH (f4) ?_)<;>conv=>whnf))
    refine HP (enc:=eQ) (B.getD (i+1) 0-b0*A.getD (i+1) 0) rfl qt.symm rfl (by omega) (by omega) ?_;rw[<-Be,qu];(conv=>whnf)
    (repeat' ((first|(apply CG;omega)|fail)<;>conv=>whnf))
    exact C6 [(67,1000067),(88,1000088)] (ih (i+1) (by omega) (by omega))
   obtain rfl:i=j:=by omega
   clear ih;rw[List.take_of_length_le (Nat.le_of_eq hal),List.take_of_length_le (Nat.le_of_eq hcl)]at *;(repeat' ((first|(apply BR<;>intro hc<;>try (exfalso;omega))|apply BA)<;>conv=>whnf))
   refine NT (λ_=>rfl) rfl hal.symm ?_;(conv=>whnf)
   refine GI (enc:=eQ) (λ_=>rfl) rfl (hul 0).symm ?_;(conv=>whnf)
   refine GI (enc:=eQ) (λ_=>rfl) rfl hcl.symm ?_;(conv=>whnf)
   exact CJ rfl hfin
def KE (a:List (List Rat)):List (List Rat):=(List.range a.length).map (EB a)
theorem Aln {a:List (List Rat)} {i:Nat} (h:i<a.length):(KE a)[i]? = some (EB a i):=by
 simp only[KE,List.getElem?_map,List.getElem?_range h,Option.map_some]
theorem rD (a:List (List Rat)):(KE a).length=a.length:=by simp [KE]
theorem Rq {a:List (List Rat)} {i j:Nat} {r:List Rat} {x:Rat} (hr:a[j]? = some r) (hx:r[i]? = some x):(EB a i)[j]? = some x:=by
 simp only[EB,List.getElem?_map,hr,Option.map_some,T7 hx]
theorem Rx {B A:List Rat} {n:Nat} : ∀ r∈(G9 B A n).a,r.length=n:=by
 intro r hr;simp only[G9,List.mem_map]at hr;obtain ⟨i,_,rfl⟩:=hr;split
 ·simp
 ·exact TD _ _
theorem Lo {R:List (Option (Nat × List (List AV)))} {e:Nat} {r:Option (Nat × List (List AV))} {K:Option (Nat × List (List AV))->Prop} (h:R[e]? = some r) (hk:K r):DC R e K:=by
 unfold DC;exact ⟨r,h,hk⟩
theorem Yg (N:StGLib L) (q:Bool) (a:List (List Rat)) (n:Nat) (hal:a.length=n) (har : ∀ r∈a,r.length=n) (hn:n<=65536):Ev L 212 [.sl q (a.map λ r=>[AV.sl false (r.map eQ)])] (.sl false ((KE a).map λ r=>[AV.sl false (r.map eQ)])):=by
 have hat : ∀ i,i<n->(KE a)[i]? = some (EB a i):=λ i h=>Aln (by omega)
 have htl:=rD a;have hcol : ∀ i,(EB a i).length=n:=λ i=>by simp [EB,hal]
 have hx : ∀ i j,i<n->j<n -> ∃ r x,a[j]? = some r/\r[i]? = some x/\(EB a i)[j]? = some x:=λ i j h1 h2=>by
  obtain ⟨r,hr⟩ : ∃ r,a[j]? = some r:=⟨_,zE (by omega)⟩;have hrl:=har r (zM hr);obtain ⟨x,hx⟩ : ∃ x,r[i]? = some x:=⟨_,zE (by omega)⟩;exact ⟨r,x,hr,hx,Rq hr hx⟩
 generalize hT:KE a=T at *;refine Ev.x N.SL rfl rfl ?_;(repeat' ((first|apply CB|apply BA)<;>conv=>whnf))
 unfold E7;refine ⟨⟨by omega,by omega,by simp only[F3];omega,by omega⟩,?_⟩;rw[Int.toNat_natCast,hal];(conv=>whnf)
 skip
 refine DG (λ i=>n-i) (λ(i:Nat)=>i<=n) (λ i=>[(4,.int .i64 i)]) (λ i=>[(8,8,.mx (mz T n i))]) [] [] 0 (by first|exact (by (conv=>whnf);exact ⟨rfl,rfl,rfl⟩)|(rw[<-X0 T];exact (by (conv=>whnf);exact ⟨rfl,rfl,rfl⟩))) (by omega) ?_;intro i p1 ih;have hzl:=XY (Q:=T) p1;by_cases hi:i<n
 ·have hst:=XZ (hat i hi) hi
  have hci:=hcol i;have hnone:(mz T n i)[i]? = some none:=by
   have hl:(C7 3 eQ (T.take i)).length=i:=by simp only[C7,List.length_map,List.length_take];omega
   have:=yU (z:=(none:Option (Nat × List (List AV)))) (l:=C7 3 eQ (T.take i)) (m:=n) (by omega)
   rw[hl]at this;exact this
  obtain ⟨r,x,e1,e2,e3⟩:=hx i 0 hi (by omega);have e1':a[(0:Int).toNat]? = some r:=e1;have e2':r[(i:Int).toNat]? = some x:=e2;have hrl:=har r (zM e1);have hc1:(EB a i).take 1=[x]:=by rw[List.take_add_one,e3];rfl
  generalize mz T n i=R0 at *;(repeat' ((first|(apply BR<;>intro hc<;>try (exfalso;omega))|apply CB|apply BA)<;>conv=>whnf))
  refine WS ?_;(repeat' ((first|(apply BR<;>intro hc<;>try (exfalso;omega))|(apply CE;omega)|apply CB|apply BA)<;>conv=>whnf))
  refine Lo (r:=none) (by rw[Nat.zero_add,Int.toNat_natCast];exact hnone) ?_;(conv=>whnf)
  (repeat' ((first|(refine CX (by assumption) ?_ rfl ?_;omega)|apply G0)<;>conv=>whnf))
  refine Y1 (enc:=eQ) x rfl rfl (by omega) ?_;(conv=>whnf)
  (repeat' ((first|(apply CE;omega)|fail)<;>conv=>whnf))
  refine CE rfl ?_;refine OO (i:=i) (by omega) (by omega) ?_;(conv=>whnf)
  (repeat' ((first|(apply CG;omega)|fail)<;>conv=>whnf))
  refine DG (λ j=>n-j) (λ(j:Nat)=>1<=j/\j<=n) (λ j=>[(5,.int .i64 j)]) (λ j=>[(8,8,.mx (R0.set i (some (3,((EB a i).take j).map eQ))))]) [] [] 1 (by first|exact (by (conv=>whnf);exact ⟨rfl,rfl,rfl⟩)|(rw[hc1];exact (by (conv=>whnf);exact ⟨rfl,rfl,rfl⟩))) (by omega) ?_;intro j ⟨r1,r2⟩ jh;have htj:((EB a i).take j).length=j:=by rw[List.length_take];omega
  by_cases hj:j<n
  ·obtain ⟨r,x,e1,e2,e3⟩:=hx i j hi hj
   have e1':a[(j:Int).toNat]? = some r:=e1;have e2':r[(i:Int).toNat]? = some x:=e2;have hrl:=har r (zM e1);have hs:=dS e3;have htj1:((EB a i).take (j+1)).length=j+1:=by rw[List.length_take];omega
   generalize (EB a i).take j=W at *;(repeat' ((first|(apply BR<;>intro hc<;>try (exfalso;omega))|(apply CE;omega)|apply CB|apply BA)<;>conv=>whnf))
   refine MM (by omega) (by omega) ?_;(conv=>whnf)
   (repeat' ((first|(refine CX (by assumption) ?_ rfl ?_;omega)|apply G0)<;>conv=>whnf))
   refine L1 (by omega) (by omega) ?_;(conv=>whnf)
   refine HP (enc:=eQ) x rfl (by rw[List.length_map]) rfl (by omega) (by omega) ?_;intro s' v;rw[<-hs,htj1];(conv=>whnf)
   (repeat' ((first|(apply CE;omega)|fail)<;>conv=>whnf))
   refine CE ⟨rfl,by rw[List.length_map];omega⟩ ?_;refine OO (i:=i) (by omega) (by rw[List.length_set,List.length_set];omega) ?_;rw[show 0+((i:Int)).toNat=i by omega,List.set_set,List.set_set];(conv=>whnf)
   (repeat' ((first|(apply CG;omega)|fail)<;>conv=>whnf))
   exact C6 [] (jh (j+1) (by omega) (by omega))
  obtain rfl:j=n:=by omega
  clear jh;rw[List.take_of_length_le (by omega),hst];(repeat' ((first|(apply BR<;>intro hc<;>try (exfalso;omega))|(apply CG;omega)|apply CB|apply BA)<;>conv=>whnf))
  exact C6 [] (ih (i+1) (by omega) (by omega))
 obtain rfl:i=n:=by omega
 clear ih;rw[XX (by omega)];(repeat' ((first|(apply BR<;>intro hc<;>try (exfalso;omega))|apply CB|apply BA)<;>conv=>whnf))
 refine NT (λ_=>rfl) rfl (by omega) ?_;(conv=>whnf)
 exact CJ rfl (by
  have:=fS ⟨T,[],[],0⟩
  simp only[CS,FG,true_and,and_true]at this ⊢;have h2:=this.1;simp only[CS,true_and]at h2;exact h2)
def Z4 (v:Int):Rat:=Rat.divInt (v%25-12) (1+v/25%8)
def JE (l:List Int) (n:Nat):List Rat:=(List.range n).map λ i:Nat=>Z4 (JU (K1 l (i:Int)) 2000)
theorem Z5 (l:List Int) (n:Nat):(JE l n).length=n:=by simp [JE]
theorem Akk (l:List Int) (n:Nat):JE l (n+1)=JE l n++[Z4 (JU (K1 l (n:Int)) 2000)]:=by simp [JE,List.range_succ]
theorem Akj {v:Int} (h:0<=v):Bt 4 (Z4 v):=by
 unfold Z4;obtain ⟨d,hd⟩:=Int.eq_ofNat_of_zero_le (show 0<=1+v/25%8 by omega);rw[hd,Rat.divInt_ofNat];refine Bt.mk ?_ ?_
 ·show _<=16;omega
 ·show _<=16;omega
theorem Fs (l:List Int) (n:Nat):Bs 4 (JE l n):=by
 intro x hx;simp only[JE,List.mem_map]at hx;obtain ⟨i,_,rfl⟩:=hx;refine Akj ?_;unfold JU;split<;>omega
theorem wZ (N:RatsGLib L) (l:List Int) (q:Bool) (n:Nat) (hl : ∀ x∈l,LD x) (hn:n<=1000000):Ev L 141 [.sl q (l.map V3),.int .i64 (n:Int)] (.sl false ((JE l n).map eQ)):=by
 have hat : ∀ i:Nat,LD (K1 l (i:Int)):=λ i=>by
  unfold K1;split
  ·rw[List.getD_eq_getElem?_getD]
   cases e:l[((i:Int)).toNat]? with
   | none=>simp [LD]
   | some x=>exact hl x (zM e)
  ·simp [LD]
 refine Ev.x N.TJ rfl rfl ?_;(repeat' (apply BA<;>conv=>whnf))
 refine DG (λ i=>n-i) (λ(i:Nat)=>i<=n) (λ i=>[(6,.int .i64 i),(5,.row 5 0 3 0 i)]) (λ i=>[(5,5,.rw 3 ((JE l i).map eQ))]) [] [] 0 (by (conv=>whnf);exact ⟨rfl,rfl,rfl⟩) (by omega) ?_;intro i p1 ih;by_cases hi:i<n
 ·have hA:=yD N.toWorldLib l q (i:Int)
  have hA':=λ q=>yD N.toWorldLib l q (i:Int)
  have hW:=yE N.toWorldLib (K1 l (i:Int)) 2000 (hat i) (by omega);have hw0:0<=JU (K1 l (i:Int)) 2000/\JU (K1 l (i:Int)) 2000<2000:=by unfold JU;split<;>omega
  have hsucc:=Akk l i;have hlen:=Z5 l i;have hF:=xW N.toa9 (JU (K1 l (i:Int)) 2000%25-12) (1+JU (K1 l (i:Int)) 2000/25%8) (by omega) (by omega);have hF':Ev L 125 [.int .i64 (JU (K1 l (i:Int)) 2000%25-12),.int .i64 (1+JU (K1 l (i:Int)) 2000/25%8)] (.agg (eQ (Z4 (JU (K1 l (i:Int)) 2000)))):=hF;clear hF;generalize Z4 (JU (K1 l (i:Int)) 2000)=y at *;generalize JU (K1 l (i:Int)) 2000=v at *;(repeat' ((first|(apply BR<;>intro hc<;>try (exfalso;omega))|(apply CG;omega)|(apply D4;omega)|(refine Y6 ?_ (λ_ _ _ => ?_) (λ_ _ _ _ => ?_);omega;all_goals try (exfalso;omega))|(refine W2 ?_ ?_ (λ_ => ?_) (λ_ _ => ?_);omega;omega;all_goals try (exfalso;omega))|apply G0|apply BA|refine BH (hA' _) ?_|refine BH (hW) ?_|refine BH (hF') ?_)<;>conv=>whnf))
  refine HP (enc:=eQ) y rfl hlen.symm rfl (by omega) (by omega) ?_;(conv=>whnf)
  (repeat' ((first|(apply CG;omega)|fail)<;>conv=>whnf))
  rw[show (JE l i++[y]).length=i+1 by simp [hlen],<-hsucc];exact C6 [(5,27)] (ih (i+1) (by omega) (by omega))
 ·obtain rfl:i=n:=by omega
  clear ih;have hlen:=Z5 l i;(repeat' ((first|(apply BR<;>intro hc<;>try (exfalso;omega))|apply BA)<;>conv=>whnf))
  refine GI (enc:=eQ) (λ_=>rfl) rfl hlen.symm ?_;(conv=>whnf)
  exact CJ rfl (by simp only[CS,true_and];exact KM _)
def SR (X:List Rat) (n j:Nat):List Rat:=(X.take (j*n+n)).drop (j*n)
def IY (X:List Rat) (n i:Nat):List (List Rat):=(List.range i).map (SR X n)
theorem Gd (X:List Rat) (n i:Nat):IY X n (i+1)=IY X n i++[SR X n i]:=by simp [IY,List.range_succ]
def YP (l:List Int) (n:Nat):GU :=
 let X:=JE l (n*n+2*n+1)
 ⟨IY X n n,(X.take (n*n+n)).drop (n*n),(X.take (n*n+2*n)).drop (n*n+n),X.getD (n*n+2*n) 0⟩
theorem Sr (N:RatsGLib L) (l:List Int) (q:Bool) (n:Nat) (hl : ∀ x∈l,LD x) (hn:n<=64):Ev L 142 [.sl q (l.map V3),.int .i64 (n:Int)] (.agg (eS (YP l n))):=by
 have hnn:n*n<=4096:=Nat.mul_le_mul hn hn;have hR:=λ q=>wZ N l q (n*n+2*n+1) hl (by omega)
 have hXl:=Z5 l (n*n+2*n+1);have hc1:((n*n+2*n+1:Nat):Int)=(n:Int)*n+2*n+1:=by simp
 rw[hc1]at hR;have e1:((n:Int)*n).toNat=n*n:=by rw[<-Int.natCast_mul];rfl
 have e2:((n:Int)*n+n).toNat=n*n+n:=by rw[<-Int.natCast_mul];omega
 have e3:((n:Int)*n+2*n).toNat=n*n+2*n:=by rw[<-Int.natCast_mul];omega
 unfold YP;simp only[];generalize JE l (n*n+2*n+1)=X at *;obtain ⟨d,nk⟩ : ∃ d,X[n*n+2*n]? = some d:=⟨_,zE (by omega)⟩;have hd1:X[((n:Int)*n+2*n).toNat]? = some d:=by rw[e3];exact nk
 have hdD:X.getD (n*n+2*n) 0=d:=by rw[List.getD_eq_getElem?_getD,nk];rfl
 rw[hdD];refine Ev.x N.TK rfl rfl ?_;(repeat' ((first|(apply CG;omega)|(apply NQ;omega)|(refine CX (by assumption) ?_ rfl ?_;omega)|(refine Y7 (λ_=>rfl) (aG ?_ ?_);omega)|apply BA|refine BH (hR _) ?_)<;>conv=>whnf))
 rw[e1,e2,e3];generalize (X.take (n*n+n)).drop (n*n)=B at *;generalize (X.take (n*n+2*n)).drop (n*n+n)=C at *;refine I3 (λ i _=>n-i) (λ(i:Nat) (fl:Bool)=>i<=n/\fl=decide (i=0)) (λ i _=>[(7,.int .i64 i)]) (λ i fl=>bif fl then [] else [(6,6,.bx ([.row 1000 0 1 0 i,.sl false (B.map eQ),.sl false (C.map eQ)]++eQ d)),(1000,68,.rw 1 ((IY X n i).map λ r=>[AV.sl false (r.map eQ)]))]) [] [] 0 true (by (conv=>whnf);exact ⟨rfl,rfl,rfl⟩) ⟨by omega,by simp⟩ ?_;intro i fl ⟨p1,p2⟩ ih;have hrl:(IY X n i).length=i:=by simp [IY]
 by_cases hi:i<n
 ·have h1:i*n+n<=n*n:=by
   have:=Nat.mul_le_mul_right n (show i+1<=n by omega)
   rw[Nat.succ_mul]at this;exact this
  have f1:((i:Int)*n).toNat=i*n:=by rw[<-Int.natCast_mul];rfl
  have f2:((i:Int)*n+n).toNat=i*n+n:=by rw[<-Int.natCast_mul];omega
  have f3:0<=(i:Int)*n:=by rw[<-Int.natCast_mul];omega
  have f4:(i:Int)*n+n<=X.length:=by rw[<-Int.natCast_mul];omega
  have f5:SR X n i=(X.take (i*n+n)).drop (i*n):=rfl;have hsucc:=Gd X n i;cases fl
  ·have ia:i≠0:=by simpa using p2.symm
   (repeat' ((first|(apply BR<;>intro hc<;>try (exfalso;omega))|(apply CG;omega)|(apply NQ;omega)|(refine Y7 (λ_=>rfl) (aG ?_ ?_);omega)|apply G0|apply BA)<;>conv=>whnf))
   rw[f1,f2,<-f5];refine HP (l:=IY X n i) (z:=1) (bytes:=24) (enc:=λ r:List Rat=>[AV.sl false (r.map eQ)]) (SR X n i) rfl hrl.symm rfl (by omega) (by omega) ?_;(conv=>whnf)
   (repeat' ((first|(apply CG;omega)|fail)<;>conv=>whnf))
   rw[<-hsucc,show (IY X n (i+1)).length=i+1 by simp [IY]];exact C6 [(1000,68)] (ih (i+1) false (by omega) ⟨by omega,by simp⟩)
  ·have ia:i=0:=by simpa using p2.symm
   subst ia;(repeat' ((first|(apply BR<;>intro hc<;>try (exfalso;omega))|(apply CG;omega)|(apply NQ;omega)|(refine Y7 (λ_=>rfl) (aG ?_ ?_);omega)|apply G0|apply BA)<;>conv=>whnf))
   rw[f1,f2,<-f5];refine Y1 (enc:=λ r=>[AV.sl false (r.map eQ)]) (SR X n 0) rfl rfl (by omega) ?_;(conv=>whnf)
   (repeat' ((first|(apply CG;omega)|fail)<;>conv=>whnf))
   exact C6 [(1000,68)] (ih 1 false (by omega) ⟨by omega,by simp⟩)
 ·obtain rfl:i=n:=by omega
  clear ih;cases fl
  ·(repeat' ((first|(apply BR<;>intro hc<;>try (exfalso;omega))|apply BA)<;>conv=>whnf))
   refine GI (enc:=λ r=>[AV.sl false (r.map eQ)]) (λ_=>rfl) rfl hrl.symm ?_;(conv=>whnf)
   skip
   exact CJ rfl (fS _)
  ·have ia:i=0:=by simpa using p2.symm
   subst ia;(repeat' ((first|(apply BR<;>intro hc<;>try (exfalso;omega))|apply BA)<;>conv=>whnf))
   exact CJ rfl (fS ⟨[],B,C,d⟩)
end Go.Eng



namespace Go.Eng
open F
attribute [local irreducible] AH BJ B1 BD E6 CF CI CY CU DX B5 DT EN GS DS CR DR EF AR CW BW pw DC DB EP EV E7 FM EZ D5 FE
variable {L:Lib}
set_option maxHeartbeats 16000000
set_option maxRecDepth 8000
theorem Ga {X:List Rat} {n j:Nat} (h:j*n+n<=X.length):(SR X n j).length=n:=by
 simp only[SR,List.length_drop,List.length_take];omega
theorem Ak8 (l:List Int) (n:Nat):(YP l n).Ok n 4:=by
 have hX:=Z5 l (n*n+2*n+1);have hb:=Fs l (n*n+2*n+1);have mem : ∀ (i j:Nat) (x:Rat),x∈((JE l (n*n+2*n+1)).take j).drop i->Bt 4 x:=λ i j x hx=>hb x (List.mem_of_mem_take (List.mem_of_mem_drop hx))
 have hr : ∀ r∈IY (JE l (n*n+2*n+1)) n n,∃ j,j<n/\r=SR (JE l (n*n+2*n+1)) n j:=λ r hr=>by
  simp only[IY,List.mem_map,List.mem_range]at hr;obtain ⟨j,h1,rfl⟩:=hr;exact ⟨j,h1,rfl⟩
 refine ⟨by simp [YP,IY],?_,?_,?_,?_,λ x hx=>mem _ _ x hx,λ x hx=>mem _ _ x hx,?_⟩
 ·intro r h
  obtain ⟨j,h1,rfl⟩:=hr r h;refine Ga ?_;have:=Nat.mul_le_mul_right n (show j+1<=n by omega)
  rw[Nat.succ_mul]at this;omega
 ·simp only[YP,List.length_drop,List.length_take];omega
 ·simp only[YP,List.length_drop,List.length_take];omega
 ·intro r h x hx
  obtain ⟨j,h1,rfl⟩:=hr r h;exact mem _ _ x hx
 ·show Bt 4 ((JE l (n*n+2*n+1)).getD (n*n+2*n) 0)
  rw[List.getD_eq_getElem?_getD];cases e:(JE l (n*n+2*n+1))[n*n+2*n]? with
  | none=>exact Bt.zero 4
  | some x=>exact hb.at e
theorem GU.Ok.le {S:GU} {n k j:Nat} (h:S.Ok n k) (hj:k<=j):S.Ok n j:=⟨h.la,h.lr,h.lb,h.lc,λ r hr=>(h.ba r hr).le hj,h.bb.le hj,h.bc.le hj,h.bd.le hj⟩
theorem Uy (N:EquGLib L) (S:GU) (n k:Nat) (h:S.Ok n k) (hn:n<=16):Ev L 281 [.agg (eS S)] (.bool true):=by
 have ui:=xB N.tom9 S n k h (by omega);have hla:=h.la;refine Ev.x N.S9 rfl rfl ?_;(repeat' ((first|(apply BR<;>intro hc<;>try (exfalso;omega))|apply CB|apply BA|refine BH (ui) ?_)<;>conv=>whnf))
 exact I4 rfl
theorem Uv (N:EquGLib L) (S:GU) (n k:Nat) (h:S.Ok n k) (hn:n<=16):Ev L 284 [.agg (eS S)] (.bool true):=by
 have ui:=Sp N.tom9 S n k h (by omega);have hla:=h.la;refine Ev.x N.SJ rfl rfl ?_;(repeat' ((first|(apply BR<;>intro hc<;>try (exfalso;omega))|apply CB|apply BA|refine BH (ui) ?_)<;>conv=>whnf))
 exact I4 rfl
theorem xC (N:m9 L) (m:List (List Rat)) (b:List Rat) (q1 q2 q3:Bool) (n k s:Nat) (hs:Sq n m) (hb:b.length=n) (hm:Ms k m) (hbb:Bs s b) (hn:n<=4) (hK:4*(k+s+1)+k+s<2199023255552):Ev L 138 [.sl q1 (E8 q3 m),.sl q2 (b.map eQ)] (.sl false ((CO m b).map eQ)):=by
 have hml:=hs.l;have hvl:=K7 m b;refine Ev.x N.SG rfl rfl ?_;(repeat' (apply BA<;>conv=>whnf))
 refine DG (λ j=>m.length-j) (λ(j:Nat)=>j<=m.length) (λ j=>[(6,.int .i64 j),(5,.row 138005 0 3 0 j)]) (λ j=>[(138005,138005,.rw 3 (((CO m b).take j).map eQ))]) [] [] 0 (by (conv=>whnf);exact ⟨rfl,rfl,rfl⟩) (by omega) ?_;intro j r1 jh;have hlen:((CO m b).take j).length=j:=by rw[List.length_take];omega
 by_cases hj:j<m.length
 ·obtain ⟨r,hr⟩ : ∃ r,m[j]? = some r:=⟨_,zE hj⟩
  have hr':m[(j:Int).toNat]? = some r:=hr;have hrl:=hs.at hr;have hP2:=λ q q'=>Tp N r b q q' k s (by omega) (hm.at hr) hbb (by rw[hrl];have:=Nat.mul_le_mul_right (k+s+1) hn;omega) (by omega)
  have hy:(CO m b)[j]? = some (CK r b):=by rw[CO,List.getElem?_map,hr];rfl
  have vb:((CO m b).take (j+1)).length=j+1:=by rw[List.length_take];omega
  (repeat' ((first|(apply BR<;>intro hc<;>try (exfalso;omega))|apply CB|(refine CX (by assumption) ?_ rfl ?_;omega)|apply G0|apply BA|refine BH (hP2 _ _) ?_)<;>conv=>whnf))
  refine HP (enc:=eQ) (CK r b) rfl hlen.symm rfl (by omega) (by omega) ?_;(conv=>whnf)
  (repeat' ((first|(apply CG;omega)|fail)<;>conv=>whnf))
  rw[<-LC hy,vb];exact C6 [(138005,138021)] (jh (j+1) (by omega) (by omega))
 obtain rfl:j=m.length:=by omega
 clear jh;rw[List.take_of_length_le (by omega)];(repeat' ((first|(apply BR<;>intro hc<;>try (exfalso;omega))|apply CB|apply BA)<;>conv=>whnf))
 refine GI (enc:=eQ) (λ_=>rfl) rfl hvl.symm ?_;(conv=>whnf)
 exact CJ rfl (by simp only[CS,true_and];exact KM _)
end Go.Eng
