/-
  Transfer functions of systems, plain: as the statement asks for them.
-/
import Derived.Test.YtpefogchdoedbaaGreatB8
import Derived.Test.YtpefogchdoedbaaGreatB11
import Derived.Test.YtpefogchdoedbaaGreatB4
import Derived.Test.YtpefogchdoedbaaGreatB10
import Derived.Test.YtpefogchdoedbaaGreatB9
import Derived.Test.YtpefogchdoedbaaGreatB5
import Derived.Test.YtpefogchdoedbaaGreatB1
import Derived.Test.YtpefogchdoedbaaGreatB7
set_option linter.unusedSimpArgs false
set_option linter.unusedVariables false
set_option linter.unnecessarySimpa false
namespace Go.Eng
theorem oI (now:List Rat) : ∀ (a:List (List Rat)) (b:List Rat),a.length=b.length->IX now 0 a b=BZ a now
 | [],[],_=>rfl
 | r::a,y::b,h=>by
  show (BC r now+y*0)::IX now 0 a b=BC r now::BZ a now
  rw[oI now a b (by simpa using h),Rat.mul_zero,Rat.add_zero]
theorem oG (n:Nat) : ∀ (a:List (List Rat)) (b:List Rat),a.length=b.length->IX (List.replicate n 0) 1 a b=b
 | [],[],_=>rfl
 | r::a,y::b,h=>by
  show (BC r (List.replicate n 0)+y*1)::IX (List.replicate n 0) 1 a b=y::b
  rw[oG n a b (by simpa using h),TS,Rat.mul_one,Rat.zero_add]
theorem pB {S:B4} (h:S.a.length=S.b.length) : ∀ (m j:Nat),S.outs (wQ S j) (List.replicate m 0)=(List.range m).map fun i=>BC S.c (wQ S (j+i))
 | 0,_=>rfl
 | m+1,j=>by
  have e:S.next (wQ S j) 0=wQ S (j+1):=oI _ _ _ h
  rw[List.replicate_succ]
  show (BC S.c (wQ S j)+S.d*0)::S.outs (S.next (wQ S j) 0) (List.replicate m 0)=_
  rw[e,pB h m (j+1),Rat.mul_zero,Rat.add_zero,List.range_succ_eq_map,List.map_cons,List.map_map]
  congr 1
  refine List.map_congr_left fun i _ => ?_
  simp only[Function.comp]
  rw[show j+1+i=j+(i+1) by omega]
def hQ (S:B4):Nat->Rat
 | 0=>S.d
 | j+1=>BC S.c (wQ S j)
theorem mM {S:B4} {n m j:Nat} (h:S.a.length=S.b.length) (hj:j<m):(S.outs (List.replicate n 0) (GU m))[j]? = some (hQ S j):=by
 cases m with
 | zero=>omega
 | succ m =>
  show ((BC S.c (List.replicate n 0)+S.d*1)::S.outs (S.next (List.replicate n 0) 1) (List.replicate m 0))[j]? = _
  have e:S.next (List.replicate n 0) 1=wQ S 0:=oG n _ _ h
  rw[e,pB h m 0,TS,Rat.mul_one,Rat.zero_add]
  cases j with
  | zero=>rfl
  | succ j =>
   rw[List.getElem?_cons_succ,List.getElem?_map,List.getElem?_range (by omega),Option.map_some,Nat.zero_add]
   rfl
theorem iE {l:List Rat} : ∀ {n i:Nat},C3 l n<=i->i<n->l.getD i 0=0
 | 0,i,_,h=>by omega
 | n+1,i,h,hi=>by
  rw[C3]at h
  split at h
  ·rename_i h0
   by_cases e:i=n
   ·subst e;exact h0
   ·exact iE h (by omega)
  ·omega
theorem NJ (l:List Rat) (i:Nat):(B5 l).getD i 0=l.getD i 0:=by
 by_cases h:i<C3 l l.length
 ·have:=JC l l.length
  rw[B5,List.getD_eq_getElem?_getD,List.getElem?_take_of_lt h,List.getD_eq_getElem?_getD]
 ·rw[F3 (by rw[NK];omega)]
  by_cases h2:i<l.length
  ·exact (iE (by omega) h2).symm
  ·exact (F3 (by omega)).symm
theorem V3 (a:List (List Rat)) (n i:Nat) (h:i<=n):(CX a n n).getD i 0=NS a n i:=by
 cases i with
 | zero=>rfl
 | succ i =>
  rw[CX,List.getD_cons_succ,List.getD_eq_getElem?_getD,List.getElem?_map,List.getElem?_range (by omega)]
  rfl
theorem fO (p r:List Rat) (h:r.length<=p.length) (i:Nat):(G3 p r).getD i 0=p.getD i 0+r.getD i 0:=by
 by_cases hi:i<p.length
 ·exact IW (V0 hi)
 ·rw[F3 (by rw[V1];omega),F3 (by omega),F3 (by omega),Rat.add_zero]
theorem qO (l:List Rat) (d:Rat) (i:Nat):(l.map (· * d)).getD i 0=l.getD i 0*d:=by
 rw[List.getD_eq_getElem?_getD,List.getD_eq_getElem?_getD,List.getElem?_map]
 cases l[i]? with
 | none=>simp
 | some x=>rfl
theorem AgQ {S:B4} {n k:Nat} (h:S.Ok n k) (hn:n<=4) (K:Nat) (hK:K<=n+2) :
  conv (fun a=>(CJ S n).getD a 0) (hQ S) K (min (CJ S n).length (K+1))=(DM S n).getD K 0:=by
 have hs:Sq n S.a:=⟨h.la,h.lr⟩
 have hbl:=RO S.a n n
 have hal:=RM S n n
 have hle:(B5 ((CX S.a n n).map (· * S.d))).length<=(ES S n n).length:=by
  rw[NK]
  have:=JC ((CX S.a n n).map (· * S.d)) ((CX S.a n n).map (· * S.d)).length
  rw[List.length_map]at this ⊢
  omega
 have hR:(DM S n).getD K 0=(ES S n n).getD K 0+(CX S.a n n).getD K 0*S.d:=by
  rw[DM,NJ,fO _ _ hle,NJ,qO]
 have hL:conv (fun a=>(CJ S n).getD a 0) (hQ S) K (min (CJ S n).length (K+1))=conv (fun a=>(CX S.a n n).getD a 0) (hQ S) K (K+1):=by
  have e:conv (fun a=>(CJ S n).getD a 0) (hQ S) K (min (CJ S n).length (K+1))=conv (fun a=>(CJ S n).getD a 0) (hQ S) K (K+1):=by
   by_cases h1:(CJ S n).length<=K+1
   ·rw[Nat.min_eq_left h1]
    have:=RT (A:=fun a=>(CJ S n).getD a 0) (h:=hQ S) (K:=K) (m:=(CJ S n).length) (fun a ha=>F3 ha) (K+1-(CJ S n).length)
    rw[show (CJ S n).length+(K+1-(CJ S n).length)=K+1 by omega]at this
    exact this.symm
   ·rw[Nat.min_eq_right (by omega)]
  rw[e]
  exact OG (K+1) (fun a _=>NJ _ a) fun _ _=>rfl
 have hCH:BZ (BX S.a n n) S.b=List.replicate n 0:=by
  rw[gG hs hn,BZ,List.map_replicate,QF]
 have hbz : ∀ a,n+1<=a->(CX S.a n n).getD a 0=0:=fun a ha=>F3 (by omega)
 rw[hL,hR]
 by_cases hKn:K<=n
 ·have e1:conv (fun a=>(CX S.a n n).getD a 0) (hQ S) K (K+1)=conv (NS S.a n) (hQ S) K (K+1):=OG (K+1) (fun a ha=>V3 _ _ _ (by omega)) fun _ _=>rfl
  rw[e1,V3 _ _ _ hKn]
  cases K with
  | zero =>
   simp only[conv,Nat.sub_self,hQ,ES,List.getD_cons_zero]
  | succ k =>
   have e2:conv (NS S.a n) (hQ S) (k+1) (k+1)=conv (NS S.a n) (fun j=>BC S.c (wQ S j)) k (k+1):=by
    refine OG (k+1) (fun _ _=>rfl) fun a ha => ?_
    rw[show k+1-a=(k-a)+1 by omega];rfl
   have e3:=UB hs h.lb k S.c h.lc
   rw[conv,e2,<-e3,Nat.sub_self]
   congr 1
   rw[ES,List.getD_cons_succ,List.getD_eq_getElem?_getD,List.getElem?_map,List.getElem?_range (by omega)]
   rfl
 ·rw[hbz K (by omega),F3 (l:=ES S n n) (by omega),Rat.zero_mul,Rat.zero_add]
  obtain ⟨d,rfl⟩ : ∃ d,K=n+1+d:=⟨K-(n+1),by omega⟩
  have e0:=RT (A:=fun a=>(CX S.a n n).getD a 0) (h:=hQ S) (K:=n+1+d) (m:=n+1) hbz (d+1)
  rw[show n+1+(d+1)=n+1+d+1 by omega]at e0
  rw[e0]
  have e1:conv (fun a=>(CX S.a n n).getD a 0) (hQ S) (n+1+d) (n+1)=conv (NS S.a n) (fun j=>BC S.c (wQ S (j+d))) n (n+1):=by
   refine OG (n+1) (fun a ha=>V3 _ _ _ (by omega)) fun a ha => ?_
   rw[show n+1+d-a=(n-a+d)+1 by omega];rfl
  rw[e1]
  have hd:d=0\/d=1:=by omega
  rcases hd with rfl|rfl
  ·have e3:=UB hs h.lb n S.c h.lc
   rw[hCH,TS]at e3
   exact e3.symm
  ·have e3:=UB hs h.lb n (EP S.c S.a n) (QR _ _ _)
   rw[hCH,TS]at e3
   rw[e3]
   exact OG (n+1) (fun _ _=>rfl) fun a _=>(QE S.a S.c hs.r).symm
end Go.Eng
namespace Go.Eng
def EE:List Rat->List Rat->Nat->Rat
 | [],_,_=>0
 | x::a,b,K=>x*b.getD K 0+(if K=0 then 0 else EE a b (K-1))
theorem W7 (x:Rat) (a b:List Rat) (K:Nat):EE (x::a) b K=x*b.getD K 0+(if K=0 then 0 else EE a b (K-1)):=rfl
theorem UK (b:List Rat) (K:Nat):EE [] b K=0:=rfl
def GQ:List Rat->Nat->Rat->List Rat->List Rat
 | r,_,_,[]=>r
 | r,i,x,y::b=>GQ (r.set i (r.getD i 0+x*y)) (i+1) x b
def GH:List Rat->Nat->List Rat->List Rat->List Rat
 | r,_,[],_=>r
 | r,i,x::a,b=>GH (GQ r i x b) (i+1) a b
theorem VZ (x:Rat) : ∀ (b r:List Rat) (i:Nat),(GQ r i x b).length=r.length
 | [],_,_=>rfl
 | y::b,r,i=>by rw[GQ,VZ x b,List.length_set]
theorem bW (b:List Rat) : ∀ (a r:List Rat) (i:Nat),(GH r i a b).length=r.length
 | [],_,_=>rfl
 | x::a,r,i=>by rw[GH,bW b a,VZ]
theorem fK (x y:Rat) : ∀ (b r:List Rat) (i:Nat),GQ r i x (b++[y])=(GQ r i x b).set (i+b.length) ((GQ r i x b).getD (i+b.length) 0+x*y)
 | [],r,i=>rfl
 | z::b,r,i=>by
  rw[List.cons_append,GQ,fK x y b,GQ,List.length_cons]
  rw[show i+1+b.length=i+(b.length+1) by omega]
theorem nZ (b:List Rat) (x:Rat) : ∀ (a r:List Rat) (i:Nat),GH r i (a++[x]) b=GQ (GH r i a b) (i+a.length) x b
 | [],r,i=>rfl
 | z::a,r,i=>by
  rw[List.cons_append,GH,nZ b x a,GH,List.length_cons]
  rw[show i+1+a.length=i+(a.length+1) by omega]
theorem AbR (r:List Rat) (i K:Nat) (z:Rat) (hi:i<r.length):(r.set i z).getD K 0=if i=K then z else r.getD K 0:=by
 rw[List.getD_eq_getElem?_getD,List.getD_eq_getElem?_getD,List.getElem?_set]
 by_cases h:i=K
 ·subst h;simp [hi]
 ·simp [h]
theorem fJ (x:Rat) : ∀ (b r:List Rat) (i K:Nat),i+b.length<=r.length->(GQ r i x b).getD K 0=r.getD K 0+if i<=K then x*b.getD (K-i) 0 else 0
 | [],r,i,K,_=>by
  rw[GQ,List.getD_nil]
  split<;>grind
 | y::b,r,i,K,h=>by
  rw[List.length_cons]at h
  rw[GQ,fJ x b _ (i+1) K (by rw[List.length_set];omega),AbR _ _ _ _ (by omega)]
  by_cases h1:i=K
  ·subst h1
   rw[if_pos rfl,if_neg (by omega),if_pos (Nat.le_refl _),Nat.sub_self,List.getD_cons_zero]
   grind
  ·rw[if_neg h1]
   by_cases h2:i<=K
   ·rw[if_pos (by omega),if_pos h2,show K-i=(K-(i+1))+1 by omega,List.getD_cons_succ]
   ·rw[if_neg (by omega),if_neg h2]
theorem nY (b:List Rat) : ∀ (a r:List Rat) (i K:Nat),a.length+i+b.length<=r.length+1->(GH r i a b).getD K 0=r.getD K 0+if i<=K then EE a b (K-i) else 0
 | [],r,i,K,_=>by
  rw[GH,UK]
  split<;>grind
 | x::a,r,i,K,h=>by
  rw[List.length_cons]at h
  rw[GH,nY b a _ (i+1) K (by rw[VZ];omega),fJ x b r i K (by omega)]
  by_cases h1:i<=K
  ·rw[if_pos h1,if_pos h1,W7]
   by_cases h2:i=K
   ·subst h2
    rw[if_neg (by omega),if_pos (Nat.sub_self i)]
    grind
   ·rw[if_pos (by omega),if_neg (by omega),show K-(i+1)=K-i-1 by omega]
    grind
  ·rw[if_neg h1,if_neg h1,if_neg (by omega)]
   grind
theorem oB (s t:Rat) (b:List Rat) : ∀ (a:List Rat) (K:Nat),EE (a.map (s * ·)) (b.map (t * ·)) K=s*t*EE a b K
 | [],K=>by
  rw[List.map_nil,UK,UK];grind
 | x::a,K=>by
  have e:(b.map (t * ·)).getD K 0=t*b.getD K 0:=by
   rw[List.getD_eq_getElem?_getD,List.getD_eq_getElem?_getD,List.getElem?_map]
   cases b[K]? with
   | none=>show (0:Rat)=t*0;grind
   | some y=>rfl
  rw[List.map_cons,W7,W7,e,oB s t b a (K-1)]
  split<;>grind
theorem oC {p:List Rat} (h:p.length<=3) (q:List Rat) (K:Nat):EE p q K=p.getD 0 0*q.getD K 0+((if 1<=K then p.getD 1 0*q.getD (K-1) 0 else 0)+if 2<=K then p.getD 2 0*q.getD (K-2) 0 else 0):=by
 match p,h with
 | [],_=>simp only[UK,List.getD_nil];split<;>split<;>grind
 | [a],_=>rcases K with _|K<;>simp [EE]<;>grind
 | [a,b],_=>rcases K with _|_|K<;>simp [EE]<;>grind
 | [a,b,c],_=>rcases K with _|_|K<;>simp [EE]<;>grind
theorem oA : ∀ (p:List Rat) (K:Nat),EE p [] K=0
 | [],K=>rfl
 | x::p,K=>by
  rw[W7,List.getD_nil,oA p (K-1)]
  split<;>grind
theorem Add (l:List Rat) (c:Rat) (K:Nat):(l.map (· * c)).getD K 0=l.getD K 0*c:=by
 rw[List.getD_eq_getElem?_getD,List.getD_eq_getElem?_getD,List.getElem?_map]
 cases l[K]? with
 | none=>show (0:Rat)=0*c;grind
 | some y=>rfl
theorem Af6 (n K:Nat):(List.replicate n (0:Rat)).getD K 0=0:=by
 rw[List.getD_eq_getElem?_getD,List.getElem?_replicate]
 split<;>rfl
theorem nI {s:Rat} (h:s≠0) (l:List Rat):(l.map (· / s)).map (s * ·)=l:=by
 rw[List.map_map]
 refine (List.map_congr_left fun x _ => ?_).trans (List.map_id l)
 show s*(x/s)=x
 rw[Rat.mul_comm,Rat.div_mul_cancel h]
theorem Adp {s t:Rat} (hs:s≠0) (ht:t≠0) (a b:List Rat) (K:Nat):EE a b K=s*t*EE (a.map (· / s)) (b.map (· / t)) K:=by
 rw[<-oB,nI hs,nI ht]
theorem AbP {k:Nat} {l:List Rat} (h:Bs k l) (i:Nat):Bt k (l.getD i 0):=by
 rw[List.getD_eq_getElem?_getD]
 cases hx:l[i]? with
 | none=>exact Bt.zero _
 | some x=>exact h.at hx
theorem Bs.setP {k:Nat} {l:List Rat} {x:Rat} (h:Bs k l) (hx:Bt k x) (i:Nat):Bs k (l.set i x):=by
 intro y hy
 rcases List.mem_or_eq_of_mem_set hy with h1|h1
 ·exact h y h1
 ·rw[h1];exact hx
theorem YS {K:Nat} (x:Rat) : ∀ (b r:List Rat) (i c:Nat),(∀ y∈b,Bt K (x*y))->Bs c r->Bs (c+b.length*(K+1)) (GQ r i x b)
 | [],r,i,c,_,h=>fun y hy=>(h y hy).le (by omega)
 | z::b,r,i,c,hb,h=>by
  have h1:Bs (c+(K+1)) (r.set i (r.getD i 0+x*z)) :=
   Bs.setP (fun y hy=>(h y hy).le (by omega)) (((AbP h i).add (hb z (List.mem_cons_self ..))).le (by omega)) i
  have:=YS (K:=K) x b _ (i+1) _ (fun y hy=>hb y (List.mem_cons_of_mem _ hy)) h1
  rw[GQ,List.length_cons,Nat.succ_mul]
  intro y hy
  exact (this y hy).le (by omega)
theorem bV {K:Nat} (b:List Rat) : ∀ (a r:List Rat) (i c:Nat),(∀ x∈a,∀ y∈b,Bt K (x*y))->Bs c r->Bs (c+a.length*(b.length*(K+1))) (GH r i a b)
 | [],r,i,c,_,h=>fun y hy=>(h y hy).le (by omega)
 | x::a,r,i,c,ha,h=>by
  have h1:=YS (K:=K) x b r i c (ha x (List.mem_cons_self ..)) h
  have:=bV (K:=K) b a _ (i+1) _ (fun z hz=>ha z (List.mem_cons_of_mem _ hz)) h1
  rw[GH,List.length_cons,Nat.succ_mul]
  intro y hy
  exact (this y hy).le (by omega)
theorem AaJ {n m:Nat} (hn:n<=2) (hm:m<=2) {a1 a2 c1 c2 x0 x1 x2 x3 x4 y0 y1 y2 y3 y4 b0 b1 b2 d0 d1 d2:Rat}
  (e0:b0=x0) (e1:b1=x1+a1*x0) (e2:b2=x2+a1*x1+a2*x0) (e3:0=x3+a1*x2+a2*x1) (e4:0=x4+a1*x3+a2*x2)
  (f0:d0=y0) (f1:d1=y1+c1*y0) (f2:d2=y2+c1*y1+c2*y0) (f3:0=y3+c1*y2+c2*y1) (f4:0=y4+c1*y3+c2*y2)
  (n1:n<2->a2=0/\b2=0) (n0:n<1->a1=0/\b1=0) (m1:m<2->c2=0/\d2=0) (m0:m<1->c1=0/\d1=0) :
  (x0=y0/\(1<n+m+1->x1=y1)/\(2<n+m+1->x2=y2)/\(3<n+m+1->x3=y3)/\(4<n+m+1->x4=y4)) ↔
  (b0=d0/\b0*c1+b1=d0*a1+d1/\b0*c2+b1*c1+b2=d0*a2+d1*a1+d2/\b1*c2+b2*c1=d1*a2+d2*a1/\b2*c2=d2*a2):=by
 obtain rfl|rfl|rfl:n=0\/n=1\/n=2:=by omega
 all_goals obtain rfl|rfl|rfl:m=0\/m=1\/m=2:=by omega
 all_goals simp only[show ¬ (2<2) by omega,show ¬ (2<1) by omega,show ¬ (1<1) by omega,show (1<2) by omega,show (0<1) by omega,show (0<2) by omega,false_implies,true_implies,true_and,and_true,forall_const]at n1 n0 m1 m0
 all_goals constructor
 all_goals rintro ⟨g0,g1,g2,g3,g4⟩
 all_goals try replace g1:=g1 (by omega)
 all_goals try replace g2:=g2 (by omega)
 all_goals try replace g3:=g3 (by omega)
 all_goals try replace g4:=g4 (by omega)
 all_goals refine ⟨?_,?_,?_,?_,?_⟩
 all_goals try intro hh
 all_goals first|(exfalso;omega)|skip
 all_goals grind
end Go.Eng

namespace Go.Eng
end Go.Eng

namespace Go.Eng
structure Pt where
 x:Rat
 y:Rat
 w:Rat
def AgM (g:List Pt) (f:Pt->Rat):Rat:=g.foldl (fun s p=>s+f p) 0
def rhs (g:List Pt) (k:Nat):Rat:=AgM g fun p=>p.w*p.x^k*p.y
end Go.Eng

namespace Go.Eng
end Go.Eng

namespace Go.Eng
theorem SV {r:List Rat} (h:B5 r=r) (hn:r.length≠0):r.getD (r.length-1) 0≠0:=by
 have hl:=NK r
 rw[h]at hl
 obtain ⟨n,hn'⟩ : ∃ n,r.length=n+1:=⟨r.length-1,by omega⟩
 rw[hn',C3]at hl
 rw[hn',Nat.add_sub_cancel]
 intro h0
 rw[if_pos h0]at hl
 have:=JC r n
 omega
theorem AgW {l r:List Rat} (hr:B5 r=r) (h : ∀ i,l.getD i 0=r.getD i 0):B5 l=r:=by
 have ht:=SU l
 have hg : ∀ i,(B5 l).getD i 0=r.getD i 0:=fun i=>by rw[NJ,h]
 generalize B5 l=t at *
 have hle:t.length=r.length:=by
  by_cases h1:t.length<r.length
  ·exact absurd (by rw[<-hg];exact F3 (by omega)) (SV hr (by omega))
  ·by_cases h2:r.length<t.length
   ·exact absurd (by rw[hg];exact F3 (by omega)) (SV ht (by omega))
   ·omega
 refine List.ext_getElem? fun i => ?_
 by_cases hi:i<t.length
 ·have e1:t[i]? = some t[i]:=zE hi
  have e2:r[i]? = some (r[i]'(by omega)):=zE (by omega)
  have:=hg i
  rw[IW e1,IW e2]at this
  rw[e1,e2,this]
 ·rw[List.getElem?_eq_none (by omega),List.getElem?_eq_none (by omega)]
def EC (B A:List Rat) (n:Nat):B4 where
 a:=(List.range n).map fun i=>if i=0 then (List.range n).map fun k => -(A.getD (k+1) 0) else EM n ((i-1:Nat):Int)
 b:=EM n 0
 c:=(List.range n).map fun i=>B.getD (i+1) 0-B.getD 0 0*A.getD (i+1) 0
 d:=B.getD 0 0
end Go.Eng

namespace Go.Eng
end Go.Eng

namespace Go.Eng
def OB (x:Rat):Rat:=if x.num<0 then -x else x
theorem fI {x:Rat} (h:x≠0):OB x≠0:=by
 unfold OB
 split
 ·intro e;exact h (by grind)
 ·exact h
theorem Bt.absL {k:Nat} {x:Rat} (h:Bt k x):Bt k (OB x):=by
 unfold OB
 split
 ·exact h.negL
 ·exact h
def NX (a b:Rat):Rat:=if a=0 then OB b else if b=0 then a else OB (a/(((a/b).num:Int):Rat))
theorem oL {x:Rat} (h:x≠0):((x.num:Int):Rat)≠0:=by
 intro e
 have:((x.num:Int):Rat)=((0:Int):Rat):=e
 exact h (Rat.num_eq_zero.1 (Rat.intCast_inj.1 this))
theorem ZH {a b:Rat} (ha:a≠0) (hb:b≠0):a/b≠0:=by
 intro e
 have:=Rat.div_mul_cancel hb (a:=a)
 rw[e,Rat.zero_mul]at this
 exact ha this.symm
theorem yA {a b:Rat} (h:a≠0\/b≠0):NX a b≠0:=by
 unfold NX
 by_cases ha:a=0
 ·rw[if_pos ha]
  exact fI (h.resolve_left fun x=>x ha)
 ·rw[if_neg ha]
  by_cases hb:b=0
  ·rw[if_pos hb];exact ha
  ·rw[if_neg hb]
   exact fI (ZH ha (oL (ZH ha hb)))
theorem Bt.numL {k:Nat} {x:Rat} (h:Bt k x):Bt k ((x.num:Int):Rat):=Bt.ofInt h.1
theorem xZ {k l:Nat} {a b:Rat} (ha:Bt k a) (hb:Bt l b):Bt (2*k+l) (NX a b):=by
 unfold NX
 split
 ·exact hb.absL.le (by omega)
 ·split
  ·exact ha.le (by omega)
  ·exact ((ha.divL (ha.divL hb).numL).absL).le (by omega)
def DQ (p:List Rat):Rat:=p.foldl NX 0
theorem nL (p:List Rat) (x:Rat):DQ (p++[x])=NX (DQ p) x:=by rw[DQ,List.foldl_append];rfl
theorem nM {p:List Rat} {i:Nat} {x:Rat} (h:p[i]? = some x):DQ (p.take (i+1))=NX (DQ (p.take i)) x:=by
 rw[List.take_add_one,h];exact nL _ _
theorem W2 {k:Nat} {p:List Rat} (h:Bs k p) : ∀ i,Bt ((2^i-1)*k) (DQ (p.take i))
 | 0=>by rw[List.take_zero];exact Bt.zero _
 | i+1=>by
  have ih:=W2 h i
  have h1:1<=2^i:=Nat.one_le_two_pow
  have e:(2^(i+1)-1)*k=2*((2^i-1)*k)+k:=by
   rw[Nat.pow_succ]
   obtain ⟨c,hc⟩ : ∃ c,2^i=c+1:=⟨2^i-1,by omega⟩
   rw[hc,show (c+1)*2-1=2*c+1 by omega,Nat.add_sub_cancel,Nat.add_mul,Nat.one_mul,Nat.mul_assoc]
  rw[e]
  cases hx:p[i]? with
  | none =>
   rw[List.take_add_one,hx]
   simp only[Option.toList_none,List.append_nil]
   exact ih.le (by omega)
  | some x =>
   rw[nM hx]
   exact xZ ih (h.at hx)
theorem Adg {p:List Rat} {x:Rat} (h:x≠0):DQ (p++[x])≠0:=by rw[nL];exact yA (Or.inr h)
theorem bL {p:List Rat} (h:B5 p=p):p=[]\/DQ p≠0:=by
 by_cases hl:p.length=0
 ·exact Or.inl (List.length_eq_zero_iff.1 hl)
 ·have h1:=SV h hl
  obtain ⟨n,hn⟩ : ∃ n,p.length=n+1:=⟨p.length-1,by omega⟩
  rw[hn,Nat.add_sub_cancel]at h1
  obtain ⟨x,hx⟩ : ∃ x,p[n]? = some x:=⟨_,zE (by omega)⟩
  rw[List.getD_eq_getElem?_getD,hx]at h1
  have e:p=p.take n++[x]:=by
   have:=List.take_add_one (l:=p) (i:=n)
   rw[hx,List.take_of_length_le (by omega)]at this
   exact this
  rw[e]
  exact Or.inr (Adg h1)
end Go.Eng

namespace Go.Eng
section
variable {M ky:Nat} {g:List Pt}
end
end Go.Eng

namespace Go.Eng
open F
attribute [local irreducible] AA AF AR AD B0 AU AX A8 A6 BN AP BK BV CN BI AZ BG BQ AB A7 AJ pw BH BF B9 B8 CI B7 CB BM B3
set_option maxHeartbeats 16000000
variable {L:Lib}
theorem AfV (x:Rat):qv false (dg x.num.natAbs) (dg x.den)=OB x:=by
 unfold OB
 split
 ·rename_i h
  have:=EZ (-x)
  rw[Rat.neg_num,Int.natAbs_neg,Rat.neg_den,show decide (-x.num<0)=false from decide_eq_false (by omega)]at this
  exact this
 ·rename_i h
  have:=EZ x
  rw[show decide (x.num<0)=false from decide_eq_false h]at this
  exact this
theorem jV (N:PolELib L) {x:Rat} {k:Nat} (hx:Bt k x) (hk:k<2199023255552):Ev L 256 [.agg (eQ x)] (.agg (eQ (OB x))):=by
 have hs:=hx.sm hk
 have hT:=Z9 N.toRatGLib false false false (dg x.num.natAbs) (dg x.den) (hs.1.le (by omega)) (hs.2.le (by omega))
 rw[AfV]at hT
 refine Ev.x N.KJ rfl rfl ?_
 (repeat' (first|(refine AE ?_;conv=>whnf)|(refine AC (hT) ?_;conv=>whnf)))
 exact AY rfl (DS _)
theorem jO (z:Int):eQ (z:Rat)=[.bool (decide (z<0)),.sl false ((dg z.natAbs).map AM),.sl false [[.int .u32 1]]]:=by
 simp only[eQ,rQ,Rat.num_intCast,Rat.den_intCast,yS]
 rfl
theorem Abj (N:PolELib L) {x:Rat} {k:Nat} (hx:Bt k x) (hk:k<2199023255552):Ev L 257 [.agg (eQ x)] (.tup [.agg (eQ ((x.num:Int):Rat)),.agg (eQ (((x.den:Nat):Int):Rat))]):=by
 rw[jO,jO,show decide (((x.den:Nat):Int)<0)=false by simp,Int.natAbs_natCast]
 refine Ev.x N.KF rfl rfl ?_
 (repeat' (first|(refine IM rfl ?_;conv=>whnf)|(refine AE ?_;conv=>whnf)))
 exact AY rfl (by
  simp only[A9,CY,FG,and_true,true_and]
  exact ⟨CU _,CU _⟩)
theorem Aa0 (N:PolELib L) {a b:Rat} {k l:Nat} (ha:Bt k a) (hb:Bt l b) (hk:k+l<1000000000000):Ev L 258 [.agg (eQ a),.agg (eQ b)] (.agg (eQ (NX a b))):=by
 have hS:=HZ N.toRatGLib ha (by omega)
 have hs:=IG (x:=a)
 generalize sgn a.num=s at *
 refine Ev.x N.KE rfl rfl ?_
 by_cases h0:a=0
 ·have hA:=jV N hb (by omega)
  have hs0:=hs.2 h0
  unfold NX
  rw[if_pos h0]
  (repeat' (first|(refine AG (fun hc => ?_) (fun hc => ?_)<;>first|(exfalso;omega)|(conv=>whnf))|(refine AE ?_;conv=>whnf)|(refine AC (hS) ?_;conv=>whnf)|(refine AC (hA) ?_;conv=>whnf)))
  exact AY rfl (DS _)
 ·have hs0:s≠0:=fun e=>h0 (hs.1 e)
  unfold NX
  rw[if_neg h0]
  by_cases hb0:b=0
  ·have hD:=AbB N.toRatGLib 68719476736 (by omega) (decide (a.num<0)) (decide (b.num<0)) false false false false _ _ _ _ (ha.sm (by omega)).1 (ha.sm (by omega)).2 (hb.sm (by omega)).1 (hb.sm (by omega)).2 (by rw[EZ];exact hb0)
   rw[if_pos hb0]
   (repeat' (first|(refine AG (fun hc => ?_) (fun hc => ?_)<;>first|(exfalso;omega)|(conv=>whnf))|(refine AE ?_;conv=>whnf)|(refine AC (hS) ?_;conv=>whnf)|(refine AC (hD) ?_;conv=>whnf)))
   exact AY rfl (DS _)
  ·have hD:=ZX N.toRatGLib ha hb (by omega) (by omega) hb0
   have hne:=ZH h0 hb0
   have hdb:=ha.divL hb
   have hP:=Abj N hdb (by omega)
   have hn0:=oL hne
   have hD2:=ZX N.toRatGLib ha hdb.numL (by omega) (by omega) hn0
   have hA:=jV N (ha.divL hdb.numL) (by omega)
   rw[if_neg hb0]
   generalize a/b=c at *
   generalize ((c.num:Int):Rat)=nn at *
   generalize (((c.den:Nat):Int):Rat)=dd at *
   generalize a/nn=e at *
   (repeat' (first|(refine AG (fun hc => ?_) (fun hc => ?_)<;>first|(exfalso;omega)|(conv=>whnf))|(refine AE ?_;conv=>whnf)|(refine AC (hS) ?_;conv=>whnf)|(refine AC (hD) ?_;conv=>whnf)|(refine AC (hP) ?_;conv=>whnf)|(refine AC (hD2) ?_;conv=>whnf)|(refine AC (hA) ?_;conv=>whnf)))
   exact AY rfl (DS _)
theorem lE (N:PolELib L) (q:Bool) (p:List Rat) (k:Nat) (hp:B5 p=p) (hl:p.length<=12) (hb:Bs k p) (hk:k<=10000000):Ev L 259 [.sl q (p.map eQ)] (.tup [.agg (eQ (DQ p)),.sl false ((p.map (· / DQ p)).map eQ)]):=by
 have hO:=JE N.toRatGLib 0 (by omega)
 have hmb : ∀ i,Bt (4096*k) (DQ (p.take i)):=fun i=>by
  by_cases hi:i<=12
  ·refine (W2 hb i).le (Nat.mul_le_mul_right k ?_)
   have:2^i<=2^12:=Nat.pow_le_pow_right (by omega) hi
   omega
  ·rw[List.take_of_length_le (by omega)]
   have:=W2 hb p.length
   rw[List.take_of_length_le (Nat.le_refl _)]at this
   refine this.le (Nat.mul_le_mul_right k ?_)
   have:2^p.length<=2^12:=Nat.pow_le_pow_right (by omega) hl
   omega
 have hmn:=bL hp
 have hcut:p.length=0 \/ ∃ m x,p.length=m+1/\p[m]? = some x/\x≠0:=by
  rcases Nat.eq_zero_or_pos p.length with h|h
  ·exact Or.inl h
  ·have h1:=SV hp (by omega)
   obtain ⟨m,hm⟩ : ∃ m,p.length=m+1:=⟨p.length-1,by omega⟩
   obtain ⟨x,hx⟩ : ∃ x,p[m]? = some x:=⟨_,zE (by omega)⟩
   rw[hm,Nat.add_sub_cancel,List.getD_eq_getElem?_getD,hx]at h1
   exact Or.inr ⟨m,x,hm,hx,h1⟩
 have hml:(p.map (· / DQ p)).length=p.length:=List.length_map ..
 have hmat : ∀ (i:Nat) (x:Rat),p[i]? = some x->(p.map (· / DQ p))[i]? = some (x/DQ p):=fun i x hx=>by rw[List.getElem?_map,hx];rfl
 have hmp : ∀ (x:Rat),x∈p->DQ p≠0:=fun x hx=>by
  rcases hmn with h|h
  ·rw[h]at hx;cases hx
  ·exact h
 have hMb:=hmb p.length
 rw[List.take_length]at hMb
 refine Ev.x N.KG rfl rfl ?_
 (repeat' (refine AE ?_;conv=>whnf))
 refine E6 1000 N.E5 rfl rfl ?_
 (repeat' (first|(refine AW ?_;conv=>whnf)|(refine AE ?_;conv=>whnf)))
 refine N6 ?_
 rcases hcut with h0|⟨m,z,hm,hz,hz0⟩
 case' inl =>
  (repeat' (first|(refine AG (fun hc => ?_) (fun hc => ?_)<;>first|(exfalso;omega)|(conv=>whnf))|(refine AE ?_;conv=>whnf)))
  clear h0 hc
 case' inr =>
  have hz':p[((p.length:Int)-1).toNat]? = some z:=by rw[show ((p.length:Int)-1).toNat=m by omega];exact hz
  have hS:=HZ N.toRatGLib (hb.at hz) (by omega)
  have hs:=IG (x:=z)
  generalize sgn z.num=s at *
  have hs0:s≠0:=fun e=>hz0 (hs.1 e)
  (repeat' (first|(refine AG (fun hc => ?_) (fun hc => ?_)<;>first|(exfalso;omega)|(conv=>whnf))|(refine CF ?_ ?_;omega;conv=>whnf)|(refine BL (by assumption) ?_ rfl ?_;omega;conv=>whnf)|(refine AE ?_;conv=>whnf)|(refine AC (hS) ?_;conv=>whnf)))
 all_goals
  refine M3 (enc:=eQ) (fun _=>rfl) (Nat.le_refl _) ?_
  rw[List.take_length]
  (conv=>whnf)
  refine ⟨rfl,_,rfl,?_⟩
  (conv=>whnf)
  (repeat' (first|(refine AW ?_;conv=>whnf)|(refine AC (hO) ?_;conv=>whnf)))
  refine CE (fun i=>p.length-i) (fun (i:Nat)=>i<=p.length) (fun i=>[(15,.int .i64 i)]) (fun i=>[(4,4,.bx (eQ (DQ (p.take i))))]) [] [] 0 (by first|exact (by (conv=>whnf);exact ⟨rfl,rfl,rfl⟩)|(rw[List.take_zero];exact (by (conv=>whnf);exact ⟨rfl,rfl,rfl⟩))) (by omega) ?_
  intro i p1 ih
  by_cases hi:i<p.length
  ·obtain ⟨x,hx⟩ : ∃ x,p[i]? = some x:=⟨_,zE hi⟩
   have hx':p[(i:Int).toNat]? = some x:=hx
   have hC:=Aa0 N (hmb i) (hb.at hx) (by omega)
   rw[<-nM hx]at hC
   generalize DQ (p.take i)=m0 at *
   generalize hm1:DQ (p.take (i+1))=m1 at hC
   (repeat' (first|(refine AG (fun hc => ?_) (fun hc => ?_)<;>first|(exfalso;omega)|(conv=>whnf))|(refine A0 ?_ ?_;omega;conv=>whnf)|(refine BL (by assumption) ?_ rfl ?_;omega;conv=>whnf)|(refine AE ?_;conv=>whnf)|(refine AC (hC) ?_;conv=>whnf)))
   subst hm1
   exact A4 [] (by (conv=>whnf);exact ⟨rfl,rfl,rfl⟩) (ih (i+1) (by omega) (by omega))
  have ei:i=p.length:=by omega
  clear ih
  rw[ei,List.take_length]
  generalize hMM:DQ p=M at *
  (repeat' (first|(refine AG (fun hc => ?_) (fun hc => ?_)<;>first|(exfalso;omega)|(conv=>whnf))|(refine AW ?_;conv=>whnf)|(refine AE ?_;conv=>whnf)))
  refine EB (enc:=eO) none p.length rfl rfl (by omega) ?_
  (conv=>whnf)
  (repeat' (refine AW ?_;conv=>whnf))
  refine CE (fun i=>p.length-i) (fun (i:Nat)=>i<=p.length) (fun i=>[(28,.int .i64 i)]) (fun i=>[(25,25,.rw 3 ((EH ((p.map (· / M)).take i) p.length).map eO))]) [] [] 0 (by first|exact (by (conv=>whnf);exact ⟨rfl,rfl,rfl⟩)|(rw[List.take_zero,<-IU];exact (by (conv=>whnf);exact ⟨rfl,rfl,rfl⟩))) (by omega) ?_
  intro e e1 eh
  have hlf:=H0 (l:=(p.map (· / M)).take e) (m:=p.length) (by rw[List.length_take];omega)
  by_cases he2:e<p.length
  ·obtain ⟨x,hx⟩ : ∃ x,p[e]? = some x:=⟨_,zE he2⟩
   have hx':p[(e:Int).toNat]? = some x:=hx
   have hD:=ZX N.toRatGLib (hb.at hx) hMb (by omega) (by omega) (hmp x (zM hx))
   have hst:=IV (l:=(p.map (· / M)).take e) (m:=p.length) (x:=x/M) (by rw[List.length_take];omega)
   rw[List.length_take,Nat.min_eq_left (by omega),<-OX (hmat e x hx)]at hst
   generalize EH ((p.map (· / M)).take e) p.length=F0 at *
   (repeat' (first|(refine AG (fun hc => ?_) (fun hc => ?_)<;>first|(exfalso;omega)|(conv=>whnf))|(refine A3 ?_ ?_;omega;conv=>whnf)|(refine BL (by assumption) ?_ rfl ?_;omega;conv=>whnf)|(refine AE ?_;conv=>whnf)|(refine AC (hD) ?_;conv=>whnf)))
   refine E9 (enc:=eO) (some (x/M)) rfl (fun e=>by cases e<;>rfl) (by omega) ?_
   (conv=>whnf)
   rw[hst]
   (repeat' (refine A0 ?_ ?_;omega;conv=>whnf))
   exact A4 [] (by (conv=>whnf);exact ⟨rfl,rfl,rfl⟩) (eh (e+1) (by omega) (by omega))
  have ee:e=p.length:=by omega
  clear eh
  rw[ee,List.take_of_length_le (by omega),IR hml]
  (repeat' (first|(refine AG (fun hc => ?_) (fun hc => ?_)<;>first|(exfalso;omega)|(conv=>whnf))|(refine DE (fun _=>rfl) rfl ?_ ?_;(first|rfl|simp);conv=>whnf)|(refine AE ?_;conv=>whnf)))
  exact AY rfl (by
   simp only[A9,CY,and_true,true_and]
   exact ⟨⟨CU _,CU _⟩,FR _⟩)
end Go.Eng

namespace Go.Eng
open F
attribute [local irreducible] AA AF AR AD B0 AU AX A8 A6 BN AP BK BV CN BI AZ BG BQ AB A7 AJ pw BH BF B9 B8 CI B7 CB BM B3
set_option maxHeartbeats 16000000
variable {L:Lib}
theorem Abk (N:PolMLib L) (m:Nat) (hm:m<=65536):MZ L 273 [.int .i64 (m:Int)] 3 ((List.replicate m (0:Rat)).map eQ):=by
 have hO:=JE N.toRatGLib 0 (by omega)
 refine MZ.x N.KH rfl rfl ?_
 (repeat' (refine AE ?_;conv=>whnf))
 refine EB (enc:=eO) none m rfl rfl (by omega) ?_
 (conv=>whnf)
 skip
 refine CE (fun i=>m-i) (fun (i:Nat)=>i<=m) (fun i=>[(9,.int .i64 i)]) (fun i=>[(6,6,.rw 3 ((EH (List.replicate i 0) m).map eO))]) [] [] 0 (by first|exact (by (conv=>whnf);exact ⟨rfl,rfl,rfl⟩)|(rw[<-IU];exact (by (conv=>whnf);exact ⟨rfl,rfl,rfl⟩))) (by omega) ?_
 intro i p1 ih
 by_cases hi:i<m
 ·have hl:=H0 (l:=List.replicate i (0:Rat)) (m:=m) (by simp;omega)
  have hs:=IV (l:=List.replicate i (0:Rat)) (m:=m) (x:=0) (by simp;omega)
  rw[List.length_replicate]at hs
  (repeat' (first|(refine AG (fun hc => ?_) (fun hc => ?_)<;>first|(exfalso;omega)|(conv=>whnf))|(refine A3 ?_ ?_;omega;conv=>whnf)|(refine AE ?_;conv=>whnf)|(refine AC (hO) ?_;conv=>whnf)))
  refine E9 (enc:=eO) (some 0) rfl (fun e=>by cases e<;>rfl) (by omega) ?_
  (conv=>whnf)
  (repeat' (refine A0 ?_ ?_;omega;conv=>whnf))
  rw[hs]
  rw[show List.replicate i (0:Rat)++[0]=List.replicate (i+1) 0 by rw[List.replicate_succ']]
  exact A4 [] (by (conv=>whnf);exact ⟨rfl,rfl,rfl⟩) (ih (i+1) (by omega) (by omega))
 obtain rfl:i=m:=by omega
 clear ih
 rw[IR (by simp)]
 (repeat' (first|(refine AG (fun hc => ?_) (fun hc => ?_)<;>first|(exfalso;omega)|(conv=>whnf))|(refine AE ?_;conv=>whnf)))
 exact ⟨rfl,rfl,by simp,rfl,FR _⟩
theorem nK {k:Nat} {p:List Rat} (h:Bs k p) (hl:p.length<=12):Bt (4096*k) (DQ p):=by
 have:=W2 h p.length
 rw[List.take_length]at this
 refine this.le (Nat.mul_le_mul_right k ?_)
 have:2^p.length<=2^12:=Nat.pow_le_pow_right (by omega) hl
 omega
theorem iD {p:List Rat} (hp:B5 p=p):p.length=0 \/ ∃ m x,p.length=m+1/\p[m]? = some x/\x≠0:=by
 rcases Nat.eq_zero_or_pos p.length with h|h
 ·exact Or.inl h
 ·have h1:=SV hp (by omega)
  obtain ⟨m,hm⟩ : ∃ m,p.length=m+1:=⟨p.length-1,by omega⟩
  obtain ⟨x,hx⟩ : ∃ x,p[m]? = some x:=⟨_,zE (by omega)⟩
  rw[hm,Nat.add_sub_cancel,List.getD_eq_getElem?_getD,hx]at h1
  exact Or.inr ⟨m,x,hm,hx,h1⟩
theorem kN (N:PolMLib L) (q1 q2:Bool) (p r:List Rat) (k:Nat) (hp:B5 p=p) (hr:B5 r=r) (lp:p.length<=12) (lr:r.length<=12) (bp:Bs k p) (br:Bs k r) (hk:k<=100000) :
  ∃ R:List Rat,(∀ K,R.getD K 0=EE p r K)/\R.length<=24/\Bs (2000000*k+1000) R/\Ev L 274 [.sl q1 (p.map eQ),.sl q2 (r.map eQ)] (.sl false ((B5 R).map eQ)):=by
 have hS1:=lE N.toPolELib q1 p k hp lp bp (by omega)
 have hS2:=lE N.toPolELib q2 r k hr lr br (by omega)
 by_cases h0:p.length=0\/r.length=0
 ·refine ⟨[],fun K => ?_,by simp,⟨fun x h=>absurd h (by simp),?_⟩⟩
  ·rw[List.getD_nil]
   rcases h0 with h|h
   ·rw[List.length_eq_zero_iff.1 h,UK]
   ·rw[List.length_eq_zero_iff.1 h,oA]
  ·rw[show B5 []=[] from rfl,List.map_nil]
   have l1:(p.map (· / DQ p)).length=p.length:=List.length_map ..
   have l2:(r.map (· / DQ r)).length=r.length:=List.length_map ..
   generalize p.map (· / DQ p)=u at *
   generalize r.map (· / DQ r)=w at *
   generalize DQ p=P at *
   generalize DQ r=R at *
   refine Ev.x N.H3 rfl rfl ?_
   rcases h0 with h|h
   ·(repeat' (first|(refine AG (fun hc => ?_) (fun hc => ?_)<;>first|(exfalso;omega)|(conv=>whnf))|(refine AW ?_;conv=>whnf)|(refine AE ?_;conv=>whnf)|(refine AC (hS1) ?_;conv=>whnf)|(refine AC (hS2) ?_;conv=>whnf)))
    exact AY rfl (by simp only[A9,true_and];trivial)
   ·(repeat' (first|(refine AG (fun hc => ?_) (fun hc => ?_)<;>first|(exfalso;omega)|(conv=>whnf))|(refine AW ?_;conv=>whnf)|(refine AE ?_;conv=>whnf)|(refine AC (hS1) ?_;conv=>whnf)|(refine AC (hS2) ?_;conv=>whnf)))
    all_goals exact AY rfl (by simp only[A9,true_and];trivial)
 have hpos:0<p.length/\0<r.length:=by omega
 have hP:DQ p≠0:=(bL hp).resolve_left (fun h=>by rw[h]at hpos;exact absurd hpos.1 (by simp))
 have hR:DQ r≠0:=(bL hr).resolve_left (fun h=>by rw[h]at hpos;exact absurd hpos.2 (by simp))
 have bP:=nK bp lp
 have bR:=nK br lr
 have hmk:=fun K=>Adp hP hR p r K
 have l1:(p.map (· / DQ p)).length=p.length:=List.length_map ..
 have l2:(r.map (· / DQ r)).length=r.length:=List.length_map ..
 have b1:Bs (4097*k) (p.map (· / DQ p)):=fun y hy=>by
  obtain ⟨z,hz,rfl⟩:=List.mem_map.1 hy
  exact ((bp z hz).divL bP).le (by omega)
 have b2:Bs (4097*k) (r.map (· / DQ r)):=fun y hy=>by
  obtain ⟨z,hz,rfl⟩:=List.mem_map.1 hy
  exact ((br z hz).divL bR).le (by omega)
 generalize p.map (· / DQ p)=u at *
 generalize r.map (· / DQ r)=w at *
 generalize DQ p=P at *
 generalize DQ r=R at *
 generalize hn:u.length=n at *
 generalize hm:w.length=m at *
 have hz:=List.length_replicate (n:=n+m-1) (a:=(0:Rat))
 have hzb:=Bs.zeros 0 (n+m-1)
 have hz0:=fun K=>Af6 (n+m-1) K
 have hZ:=Abk N (n+m-1) (by omega)
 have hPR:=PB N.toRatGLib bP bR (by omega) (by omega)
 have bPR:Bt (8192*k) (P*R):=(bP.mul bR).le (by omega)
 generalize P*R=S at *
 generalize List.replicate (n+m-1) (0:Rat)=z at *
 have hpr : ∀ x∈u,∀ y∈w,Bt (8194*k) (x*y):=fun x hx y hy=>((b1 x hx).mul (b2 y hy)).le (by omega)
 have hnm : ∀ i j,i<=n->j<=m->i*(m*(8194*k+1))+j*(8194*k+1)<=156*(8194*k+1):=fun i j hi hj=>by
  have h1:i*(m*(8194*k+1))<=12*(12*(8194*k+1)):=Nat.mul_le_mul (by omega) (Nat.mul_le_mul_right _ (by omega))
  have h2:j*(8194*k+1)<=12*(8194*k+1):=Nat.mul_le_mul_right _ (by omega)
  omega
 have hab : ∀ i,i<=n->Bs (156*(8194*k+1)) (GH z 0 (u.take i) w):=fun i hi=>by
  have:=bV w (u.take i) z 0 0 (fun x hx=>hpr x (List.mem_of_mem_take hx)) hzb
  rw[List.length_take,hn,Nat.min_eq_left hi,hm,Nat.zero_add]at this
  intro y hy
  exact (this y hy).le (by have:=hnm i 0 hi (Nat.zero_le _);omega)
 have hib : ∀ i j x,i<=n->j<=m->x∈u->Bs (156*(8194*k+1)) (GQ (GH z 0 (u.take i) w) i x (w.take j)):=fun i j x hi hj hx=>by
  have h1:=bV w (u.take i) z 0 0 (fun x hx=>hpr x (List.mem_of_mem_take hx)) hzb
  have:=YS x (w.take j) _ i _ (fun y hy=>hpr x hx y (List.mem_of_mem_take hy)) h1
  rw[List.length_take,List.length_take,hn,hm,Nat.min_eq_left hi,Nat.min_eq_left hj,Nat.zero_add]at this
  intro y hy
  exact (this y hy).le (hnm i j hi hj)
 have hfl:(GH z 0 u w).length=n+m-1:=by rw[bW,hz]
 have hfb:=hab n (Nat.le_refl _)
 rw[List.take_of_length_le (Nat.le_of_eq hn)]at hfb
 have hSc:=fun q=>kO N.toTrGLib q (GH z 0 u w) S (156*(8194*k+1)) (8192*k) hfb bPR (by omega) (by omega)
 refine ⟨(GH z 0 u w).map (· * S),fun K => ?_,by rw[List.length_map,hfl];omega,?_,?_⟩
 ·rw[hmk K,Add,nY _ _ _ _ _ (by rw[hz];omega),if_pos (Nat.zero_le _),Nat.sub_zero,hz0]
  grind
 ·intro y hy
  obtain ⟨x,hx,rfl⟩:=List.mem_map.1 hy
  exact ((hfb x hx).mul bPR).le (by omega)
 clear hmk hz0
 refine Ev.x N.H3 rfl rfl ?_
 (repeat' (first|(refine AG (fun hc => ?_) (fun hc => ?_)<;>first|(exfalso;omega)|(conv=>whnf))|(refine A0 ?_ ?_;omega;conv=>whnf)|(refine CF ?_ ?_;omega;conv=>whnf)|(refine AW ?_;conv=>whnf)|(refine AE ?_;conv=>whnf)|(refine AC (hS1) ?_;conv=>whnf)|(refine AC (hS2) ?_;conv=>whnf)))
 rw[show (u.length:Int)+(w.length:Int)-1=((n+m-1:Nat):Int) by omega]
 refine NM (enc:=eQ) (n+m-1) hZ hz.symm ?_
 (conv=>whnf)
 (repeat' (refine AW ?_;conv=>whnf))
 refine CE (fun i=>n-i) (fun (i:Nat)=>i<=n) (fun i=>[(41,.int .i64 i)]) (fun i=>[(38,38,.rw 3 ((GH z 0 (u.take i) w).map eQ))]) [] [] 0 (by first|exact (by (conv=>whnf);exact ⟨rfl,rfl,rfl⟩)|(rw[List.take_zero];exact (by (conv=>whnf);exact ⟨rfl,rfl,rfl⟩))) (by omega) ?_
 intro i g1 ih
 by_cases hi:i<n
 ·obtain ⟨x,hx⟩ : ∃ x,u[i]? = some x:=⟨_,zE (by omega)⟩
  have hx':u[(i:Int).toNat]? = some x:=hx
  have hsn:=nZ w x (u.take i) z 0
  rw[<-U9 hx,List.length_take,hn,Nat.min_eq_left (by omega),Nat.zero_add]at hsn
  have hib1:=fun j hj=>hib i j x (by omega) hj (zM hx)
  have hAl:=bW w (u.take i) z 0
  rw[hz]at hAl
  generalize GH z 0 (u.take i) w=A at *
  (repeat' (first|(refine AG (fun hc => ?_) (fun hc => ?_)<;>first|(exfalso;omega)|(conv=>whnf))|(refine AW ?_;conv=>whnf)|(refine BL (by assumption) ?_ rfl ?_;omega;conv=>whnf)|(refine AE ?_;conv=>whnf)))
  refine CE (fun j=>m-j) (fun (j:Nat)=>j<=m) (fun j=>[(48,.int .i64 j)]) (fun j=>[(38,38,.rw 3 ((GQ A i x (w.take j)).map eQ))]) [] [] 0 (by first|exact (by (conv=>whnf);exact ⟨rfl,rfl,rfl⟩)|(rw[List.take_zero];exact (by (conv=>whnf);exact ⟨rfl,rfl,rfl⟩))) (by omega) ?_
  intro j g2 jh
  by_cases hj:j<m
  ·obtain ⟨y,hy⟩ : ∃ y,w[j]? = some y:=⟨_,zE (by omega)⟩
   have hy':w[(j:Int).toNat]? = some y:=hy
   have hs2:=fK x y (w.take j) A i
   rw[<-U9 hy,List.length_take,hm,Nat.min_eq_left (by omega)]at hs2
   have hVb:=hib1 j (by omega)
   have hVl:=VZ x (w.take j) A i
   rw[hAl]at hVl
   generalize GQ A i x (w.take j)=V at *
   obtain ⟨v0,hv0⟩ : ∃ v,V[i+j]? = some v:=⟨_,zE (by omega)⟩
   rw[IW hv0]at hs2
   have hM:=PB N.toRatGLib (b1.at hx) (b2.at hy) (by omega) (by omega)
   have hA':=QJ N.toRatGLib (hVb.at hv0) ((b1.at hx).mul (b2.at hy)) (by omega) (by omega)
   have hA : ∀ v,V[((i:Int)+(j:Int)).toNat]? = some v->Ev L 98 [.agg (eQ v),.agg (eQ (x*y))] (.agg (eQ (v0+x*y))):=fun v h=>by
    rw[show ((i:Int)+(j:Int)).toNat=i+j by omega]at h
    obtain rfl:=Option.some.inj (hv0.symm.trans h)
    exact hA'
   (repeat' (first|(refine AG (fun hc => ?_) (fun hc => ?_)<;>first|(exfalso;omega)|(conv=>whnf))|(refine A3 ?_ ?_;omega;conv=>whnf)|(refine A0 ?_ ?_;omega;conv=>whnf)|(refine BL (by assumption) ?_ rfl ?_;omega;conv=>whnf)|(refine HI ?_ (fun _=>rfl) (fun v hv => ?_);omega;conv=>whnf)|(refine AE ?_;conv=>whnf)|(refine AC (hM) ?_;conv=>whnf)|(refine AC (hA _ hv) ?_;conv=>whnf)))
   refine O6 (enc:=eQ) (i+j) (v0+x*y) (by omega) rfl (fun _=>rfl) (by omega) ?_
   (conv=>whnf)
   rw[<-hs2]
   (repeat' (refine A0 ?_ ?_;omega;conv=>whnf))
   exact A4 [] (by (conv=>whnf);exact ⟨rfl,rfl,rfl⟩) (jh (j+1) (by omega) (by omega))
  ·obtain rfl:j=m:=by omega
   clear jh
   rw[List.take_of_length_le (by omega),<-hsn]
   (repeat' (first|(refine AG (fun hc => ?_) (fun hc => ?_)<;>first|(exfalso;omega)|(conv=>whnf))|(refine A0 ?_ ?_;omega;conv=>whnf)|(refine AE ?_;conv=>whnf)))
   exact A4 [] (by (conv=>whnf);exact ⟨rfl,rfl,rfl⟩) (ih (i+1) (by omega) (by omega))
 ·obtain rfl:i=n:=by omega
  clear ih
  rw[List.take_of_length_le (by omega)]
  (repeat' (first|(refine AG (fun hc => ?_) (fun hc => ?_)<;>first|(exfalso;omega)|(conv=>whnf))|(refine AE ?_;conv=>whnf)|(refine AC (hPR) ?_;conv=>whnf)))
  refine DE (enc:=eQ) (fun _=>rfl) rfl hfl.symm ?_
  (conv=>whnf)
  (repeat' (refine AC (hSc _) ?_;conv=>whnf))
  refine AY rfl ?_
  simp only[A9,true_and]
  exact FR _
theorem Abh (N:PolMLib L) (q1 q2:Bool) (p r:List Rat) (k:Nat) (hp:B5 p=p) (hr:B5 r=r) (lp:p.length<=100) (lr:r.length<=100) (bp:Bs k p) (br:Bs k r) (hk:k<2199023255552) :
  Ev L 275 [.sl q1 (p.map eQ),.sl q2 (r.map eQ)] (.bool (decide (p=r))):=by
 have hcut1:=iD hp
 have hcut2:=iD hr
 refine Ev.x N.KB rfl rfl ?_
 (repeat' (refine AE ?_;conv=>whnf))
 refine E6 1000 N.E5 rfl rfl ?_
 (repeat' (first|(refine AW ?_;conv=>whnf)|(refine AE ?_;conv=>whnf)))
 refine N6 ?_
 rcases hcut1 with h0|⟨m,z,hm,hz,hz0⟩
 case' inl =>
  (repeat' (first|(refine AG (fun hc => ?_) (fun hc => ?_)<;>first|(exfalso;omega)|(conv=>whnf))|(refine AE ?_;conv=>whnf)))
  clear h0 hc
 case' inr =>
  have hz':p[((p.length:Int)-1).toNat]? = some z:=by rw[show ((p.length:Int)-1).toNat=m by omega];exact hz
  have hS:=HZ N.toRatGLib (bp.at hz) (by omega)
  have hs:=IG (x:=z)
  generalize sgn z.num=s at *
  have hs0:s≠0:=fun e=>hz0 (hs.1 e)
  (repeat' (first|(refine AG (fun hc => ?_) (fun hc => ?_)<;>first|(exfalso;omega)|(conv=>whnf))|(refine CF ?_ ?_;omega;conv=>whnf)|(refine BL (by assumption) ?_ rfl ?_;omega;conv=>whnf)|(refine AE ?_;conv=>whnf)|(refine AC (hS) ?_;conv=>whnf)))
 all_goals
  refine M3 (enc:=eQ) (fun _=>rfl) (Nat.le_refl _) ?_
  rw[List.take_length]
  (conv=>whnf)
  refine ⟨rfl,_,rfl,?_⟩
  (conv=>whnf)
  skip
  refine E6 1000 N.E5 rfl rfl ?_
  (repeat' (first|(refine AW ?_;conv=>whnf)|(refine AE ?_;conv=>whnf)))
  refine N6 ?_
  rcases hcut2 with h0|⟨m2,z2,hm2,hz2,hz20⟩
  case' inl =>
   (repeat' (first|(refine AG (fun hc => ?_) (fun hc => ?_)<;>first|(exfalso;omega)|(conv=>whnf))|(refine AE ?_;conv=>whnf)))
   clear h0 hc
  case' inr =>
   have hz2':r[((r.length:Int)-1).toNat]? = some z2:=by rw[show ((r.length:Int)-1).toNat=m2 by omega];exact hz2
   have hS2:=HZ N.toRatGLib (br.at hz2) (by omega)
   have hs2:=IG (x:=z2)
   generalize sgn z2.num=s2 at *
   have hs20:s2≠0:=fun e=>hz20 (hs2.1 e)
   (repeat' (first|(refine AG (fun hc => ?_) (fun hc => ?_)<;>first|(exfalso;omega)|(conv=>whnf))|(refine CF ?_ ?_;omega;conv=>whnf)|(refine BL (by assumption) ?_ rfl ?_;omega;conv=>whnf)|(refine AE ?_;conv=>whnf)|(refine AC (hS2) ?_;conv=>whnf)))
  all_goals
   refine M3 (enc:=eQ) (fun _=>rfl) (Nat.le_refl _) ?_
   rw[List.take_length]
   (conv=>whnf)
   refine ⟨rfl,_,rfl,?_⟩
   (conv=>whnf)
   by_cases hlen:p.length=r.length
   ·(repeat' (first|(refine AG (fun hc => ?_) (fun hc => ?_)<;>first|(exfalso;omega)|(conv=>whnf))|(refine AW ?_;conv=>whnf)))
    refine CE (fun i=>p.length-i) (fun (i:Nat)=>i<=p.length/\p.take i=r.take i) (fun i=>[(19,.int .i64 i)]) (fun _=>[]) [] [] 0 (by (conv=>whnf);exact ⟨rfl,rfl,rfl⟩) ⟨by omega,rfl⟩ ?_
    intro i ⟨p1,p2⟩ ih
    by_cases hi:i<p.length
    ·obtain ⟨x,hx⟩ : ∃ x,p[i]? = some x:=⟨_,zE hi⟩
     obtain ⟨y,hy⟩ : ∃ y,r[i]? = some y:=⟨_,zE (by omega)⟩
     have hx':p[(i:Int).toNat]? = some x:=hx
     have hy':r[(i:Int).toNat]? = some y:=hy
     have hC3:=ZW N.toStGLib (bp.at hx) (br.at hy) hk hk
     have hsg:=U2 (x:=x) (y:=y)
     generalize sgn (x-y).num=sg at *
     by_cases hxy:x=y
     ·have h0:sg=0:=hsg.2 hxy
      (repeat' (first|(refine AG (fun hc => ?_) (fun hc => ?_)<;>first|(exfalso;omega)|(conv=>whnf))|(refine A0 ?_ ?_;omega;conv=>whnf)|(refine BL (by assumption) ?_ rfl ?_;omega;conv=>whnf)|(refine AE ?_;conv=>whnf)|(refine AC (hC3) ?_;conv=>whnf)))
      refine A4 [] (by (conv=>whnf);exact ⟨rfl,rfl,rfl⟩) (ih (i+1) (by omega) ⟨by omega,?_⟩)
      rw[List.take_add_one,List.take_add_one,p2,hx,hy,hxy]
     ·have hne:sg≠0:=fun h=>hxy (hsg.1 h)
      (repeat' (first|(refine AG (fun hc => ?_) (fun hc => ?_)<;>first|(exfalso;omega)|(conv=>whnf))|(refine BL (by assumption) ?_ rfl ?_;omega;conv=>whnf)|(refine AE ?_;conv=>whnf)|(refine AC (hC3) ?_;conv=>whnf)))
      refine RG (fun h=>hxy ?_)
      rw[h,hy]at hx
      exact (Option.some.inj hx).symm
    ·have ei:i=p.length:=by omega
     clear ih
     rw[ei]at p2
     rw[List.take_length,hlen,List.take_length]at p2
     (repeat' (first|(refine AG (fun hc => ?_) (fun hc => ?_)<;>first|(exfalso;omega)|(conv=>whnf))|(refine AE ?_;conv=>whnf)))
     exact YH p2
   ·(repeat' (first|(refine AG (fun hc => ?_) (fun hc => ?_)<;>first|(exfalso;omega)|(conv=>whnf))|(refine AW ?_;conv=>whnf)))
    exact RG (fun h=>hlen (by rw[h]))
end Go.Eng

namespace Go.Eng
open F
attribute [local irreducible] AA AF AR AD B0 AU AX A8 A6 BN AP BK BV CN BI AZ BG BQ AB A7 AJ pw BH BF B9 B8 CI B7 CB BM B3
set_option maxHeartbeats 16000000
variable {L:Lib}
theorem AbE (N:StGLib L) (m:Nat) (hm:m<=65536):MZ L 206 [.int .i64 (m:Int)] 3 ((List.replicate m (0:Rat)).map eQ):=by
 have hO:=JE N.toRatGLib 0 (by omega)
 refine MZ.x N.L6 rfl rfl ?_
 (repeat' (refine AE ?_;conv=>whnf))
 refine EB (enc:=eO) none m rfl rfl (by omega) ?_
 (conv=>whnf)
 skip
 refine CE (fun i=>m-i) (fun (i:Nat)=>i<=m) (fun i=>[(8,.int .i64 i)]) (fun i=>[(6,6,.rw 3 ((EH (List.replicate i 0) m).map eO))]) [] [] 0 (by first|exact (by (conv=>whnf);exact ⟨rfl,rfl,rfl⟩)|(rw[<-IU];exact (by (conv=>whnf);exact ⟨rfl,rfl,rfl⟩))) (by omega) ?_
 intro i p1 ih
 by_cases hi:i<m
 ·have hl:=H0 (l:=List.replicate i (0:Rat)) (m:=m) (by simp;omega)
  have hs:=IV (l:=List.replicate i (0:Rat)) (m:=m) (x:=0) (by simp;omega)
  rw[List.length_replicate]at hs
  (repeat' (first|(refine AG (fun hc => ?_) (fun hc => ?_)<;>first|(exfalso;omega)|(conv=>whnf))|(refine A3 ?_ ?_;omega;conv=>whnf)|(refine AE ?_;conv=>whnf)|(refine AC (hO) ?_;conv=>whnf)))
  refine E9 (enc:=eO) (some 0) rfl (fun e=>by cases e<;>rfl) (by omega) ?_
  (conv=>whnf)
  (repeat' (refine A0 ?_ ?_;omega;conv=>whnf))
  rw[hs]
  rw[show List.replicate i (0:Rat)++[0]=List.replicate (i+1) 0 by rw[List.replicate_succ']]
  exact A4 [] (by (conv=>whnf);exact ⟨rfl,rfl,rfl⟩) (ih (i+1) (by omega) (by omega))
 obtain rfl:i=m:=by omega
 clear ih
 rw[IR (by simp)]
 (repeat' (first|(refine AG (fun hc => ?_) (fun hc => ?_)<;>first|(exfalso;omega)|(conv=>whnf))|(refine AE ?_;conv=>whnf)))
 exact ⟨rfl,rfl,by simp,rfl,FR _⟩
theorem aA (N:StGLib L) (q:Bool) (l:List Rat) (i:Int) (k:Nat) (h0:0<=i) (hl:Bs k l) (hk:k<2199023255552) (hn:l.length<=1000000):Ev L 205 [.sl q (l.map eQ),.int .i64 i] (.agg (eQ (l.getD i.toNat 0))):=by
 have hO:=JE N.toRatGLib 0 (by omega)
 refine Ev.x N.L3 rfl rfl ?_
 by_cases hi:i<l.length
 ·obtain ⟨x,hx⟩ : ∃ x,l[i.toNat]? = some x:=⟨_,zE (by omega)⟩
  have hT:=WT N.toRatGLib (hl.at hx) hk
  rw[IW hx]
  (repeat' (first|(refine AG (fun hc => ?_) (fun hc => ?_)<;>first|(exfalso;omega)|(conv=>whnf))|(refine AW ?_;conv=>whnf)|(refine BL (by assumption) ?_ rfl ?_;omega;conv=>whnf)|(refine AE ?_;conv=>whnf)|(refine AC (hT) ?_;conv=>whnf)))
  exact AY rfl (DS _)
 ·rw[F3 (l:=l) (by omega)]
  (repeat' (first|(refine AG (fun hc => ?_) (fun hc => ?_)<;>first|(exfalso;omega)|(conv=>whnf))|(refine AW ?_;conv=>whnf)|(refine AE ?_;conv=>whnf)|(refine AC (hO) ?_;conv=>whnf)))
  exact AY rfl (DS _)
theorem kY (N:StGLib L) (q:Bool) (l:List Rat) (k:Nat) (ht:B5 l=l) (hl:Bs k l) (hk:k<2199023255552) (hn:l.length<=1000000):Ev L 204 [.sl q (l.map eQ)] (.int .i64 ((l.length-1:Nat):Int)):=by
 refine Ev.x N.L4 rfl rfl ?_
 (repeat' (first|(refine CF ?_ ?_;omega;conv=>whnf)|(refine AW ?_;conv=>whnf)|(refine AE ?_;conv=>whnf)))
 refine N6 ?_
 by_cases h2:l.length<=1
 ·(repeat' (first|(refine AG (fun hc => ?_) (fun hc => ?_)<;>first|(exfalso;omega)|(conv=>whnf))|(refine AE ?_;conv=>whnf)))
  exact C4 (by omega)
 ·obtain ⟨x,hx⟩ : ∃ x,l[l.length-1]? = some x:=⟨_,zE (by omega)⟩
  have hx':l[((l.length:Int)-1).toNat]? = some x:=by rw[show ((l.length:Int)-1).toNat=l.length-1 by omega];exact hx
  have hxn:=SV ht (by omega)
  rw[IW hx]at hxn
  have hS:=HZ N.toRatGLib (hl.at hx) hk
  have hs:=IG (x:=x)
  generalize sgn x.num=s at *
  have hs0:s≠0:=fun h=>hxn (hs.1 h)
  (repeat' (first|(refine AG (fun hc => ?_) (fun hc => ?_)<;>first|(exfalso;omega)|(conv=>whnf))|(refine BL (by assumption) ?_ rfl ?_;omega;conv=>whnf)|(refine AE ?_;conv=>whnf)|(refine AC (hS) ?_;conv=>whnf)))
  exact C4 (by omega)
theorem Z8 (N:StGLib L) (q1 q2:Bool) (B A:List Rat) (k:Nat) (hB:Bs k B) (hA:Bs k A) (hk:k<2199023255552) (lB:B.length<=49) (lA:A.length<=49) (h0:A[0]? = some 1):Ev L 201 [.agg [.sl q1 (B.map eQ),.sl q2 (A.map eQ)]] (.bool true):=by
 have c1:=JC B B.length
 have c2:=JC A A.length
 have hD1:=kM N q1 B k hB hk (by omega)
 have hD2:=kM N q2 A k hA hk (by omega)
 have hO:=JE N.toRatGLib 1 (by omega)
 have hC:=ZW N (Bt.one 1) (Bt.one 1) (by omega) (by omega)
 rw[U2.2 rfl]at hC
 have hAl:0<A.length:=(zS h0).1
 have h0':A[(0:Int).toNat]? = some 1:=h0
 generalize C3 B B.length=d1 at *
 generalize C3 A A.length=d2 at *
 refine Ev.x N.L0 rfl rfl ?_
 (repeat' (first|(refine AG (fun hc => ?_) (fun hc => ?_)<;>first|(exfalso;omega)|(conv=>whnf))|(refine AW ?_;conv=>whnf)|(refine BL (by assumption) ?_ rfl ?_;omega;conv=>whnf)|(refine AE ?_;conv=>whnf)|(refine AC (hD1) ?_;conv=>whnf)|(refine AC (hD2) ?_;conv=>whnf)|(refine AC (hO) ?_;conv=>whnf)|(refine AC (hC) ?_;conv=>whnf)))
 exact IK rfl
theorem yC (B A:List Rat) (m:Nat):(EC B A (m+1)).a.take 1=[(List.range (m+1)).map fun k => -(A.getD (k+1) 0)]:=by
 simp [EC,List.range_succ_eq_map]
theorem yD {B A:List Rat} {n i:Nat} (h1:1<=i) (hi:i<n):(EC B A n).a[i]? = some (EM n ((i-1:Nat):Int)):=by
 simp only[EC,List.getElem?_map,List.getElem?_range hi,Option.map_some]
 rw[if_neg (by omega)]
theorem hJ {B A:List Rat} {n i:Nat} (hi:i<n):(EC B A n).c[i]? = some (B.getD (i+1) 0-B.getD 0 0*A.getD (i+1) 0):=by
 simp only[EC,List.getElem?_map,List.getElem?_range hi,Option.map_some]
theorem yE (B A:List Rat) (m:Nat):(EC B A (m+1)).c.take 1=[B.getD 1 0-B.getD 0 0*A.getD 1 0]:=by
 rw[List.take_add_one,hJ (by omega)];rfl
theorem hH (B A:List Rat) (n:Nat):(EC B A n).a.length=n:=by simp [EC]
theorem iA (B A:List Rat) (n:Nat):(EC B A n).c.length=n:=by simp [EC]
theorem VB {α:Type} {l:List α} {i:Nat} {x:α} (h:l[i]? = some x):l.take (i+1)=l.take i++[x]:=by
 rw[List.take_add_one,h];rfl
theorem Y4 (S:B4) (e:Int):A9 (.tup [.agg (eS S),.int .i64 e]):=by
 have:=WC S
 simp only[A9,CY,true_and,and_true]at this ⊢
 exact this
theorem AaO (N:StGLib L) (w1 w2:Bool) (B A:List Rat) (n k:Nat) (hB:B5 B=B) (hA:B5 A=A) (bB:Bs k B) (bA:Bs k A) (lB:B.length<=17) (lA:A.length<=17) (h0:A[0]? = some 1) (hn:max (B.length-1) (A.length-1)=n) (hk:k<=1000000) :
  Ev L 207 [.agg [.sl w1 (B.map eQ),.sl w2 (A.map eQ)]] (.tup [.agg (eS (EC B A n)),.int .i64 0]):=by
 have hV:=Z8 N w1 w2 B A k bB bA (by omega) (by omega) (by omega) h0
 have hD1:=kY N w1 B k hB bB (by omega) (by omega)
 have hD2:=kY N w2 A k hA bA (by omega) (by omega)
 have hO:=JE N.toRatGLib 1 (by omega)
 have hB0:=aA N w1 B 0 k (by omega) bB (by omega) (by omega)
 rw[show B.getD (0:Int).toNat 0=B.getD 0 0 from rfl]at hB0
 have hZ:=AbE N n (by omega)
 have bB0:Bt k (B.getD 0 0):=MP bB 0
 have hcf : ∀ i:Nat,Ev L 205 [.sl w1 (B.map eQ),.int .i64 ((i:Int)+1)] (.agg (eQ (B.getD (i+1) 0)))/\Ev L 205 [.sl w2 (A.map eQ),.int .i64 ((i:Int)+1)] (.agg (eQ (A.getD (i+1) 0))) /\
   Ev L 99 [.agg (eQ (B.getD 0 0)),.agg (eQ (A.getD (i+1) 0))] (.agg (eQ (B.getD 0 0*A.getD (i+1) 0)))/\Ev L 150 [.agg (eQ (B.getD (i+1) 0)),.agg (eQ (B.getD 0 0*A.getD (i+1) 0))] (.agg (eQ (B.getD (i+1) 0-B.getD 0 0*A.getD (i+1) 0))) /\
   Ev L 199 [.agg (eQ (A.getD (i+1) 0))] (.agg (eQ (-(A.getD (i+1) 0)))):=fun i=>by
  have e1:=aA N w1 B ((i:Int)+1) k (by omega) bB (by omega) (by omega)
  have e2:=aA N w2 A ((i:Int)+1) k (by omega) bA (by omega) (by omega)
  rw[show ((i:Int)+1).toNat=i+1 by omega]at e1 e2
  exact ⟨e1,e2,PB N.toRatGLib bB0 (MP bA _) (by omega) (by omega),AbH N.toRatHLib (MP bB _) (bB0.mul (MP bA _)) (by omega) (by omega),Abe N (MP bA _) (by omega)⟩
 have hd:(EC B A n).d=B.getD 0 0:=rfl
 have hal:=hH B A n
 have hcl:=iA B A n
 have hres:eS (EC B A n)=[.sl false ((EC B A n).a.map fun r=>[AV.sl false (r.map eQ)]),.sl false ((EM n 0).map eQ),.sl false ((EC B A n).c.map eQ)]++eQ (B.getD 0 0):=rfl
 have hfin:=Y4 (EC B A n) 0
 rw[hres]at hfin ⊢
 have hai : ∀ i,1<=i->i<n->(EC B A n).a[i]? = some (EM n ((i-1:Nat):Int)):=fun i h1 h2=>yD h1 h2
 have hci : ∀ i,i<n->(EC B A n).c[i]? = some (B.getD (i+1) 0-B.getD 0 0*A.getD (i+1) 0):=fun i h=>hJ h
 have ha1:0<n->(EC B A n).a.take 1=[(List.range n).map fun k => -(A.getD (k+1) 0)]:=fun h=>by
  obtain ⟨m,rfl⟩ : ∃ m,n=m+1:=⟨n-1,by omega⟩
  exact yC B A m
 have hc1:0<n->(EC B A n).c.take 1=[B.getD (0+1) 0-B.getD 0 0*A.getD (0+1) 0]:=fun h=>by
  obtain ⟨m,rfl⟩ : ∃ m,n=m+1:=⟨n-1,by omega⟩
  exact yE B A m
 have hr0 : ∀ j,j<n->((List.range n).map fun k => -(A.getD (k+1) 0))[j]? = some (-(A.getD (j+1) 0)):=fun j h=>by
  rw[List.getElem?_map,List.getElem?_range h];rfl
 have hr0l:((List.range n).map fun k => -(A.getD (k+1) 0)).length=n:=by simp
 have hul : ∀ j,(EM n j).length=n:=fun j=>PV n j
 generalize (EC B A n).a=a at *
 generalize (EC B A n).c=c at *
 generalize (List.range n).map (fun k => -(A.getD (k+1) 0))=r0 at *
 generalize B.getD 0 0=b0 at *
 rcases Nat.lt_or_ge (B.length-1) (A.length-1) with hlt|hge
 ·rw[show A.length-1=n by omega]at hD2 hlt
  refine Ev.x N.IH rfl rfl ?_
  (repeat' (first|(refine AG (fun hc => ?_) (fun hc => ?_)<;>first|(exfalso;omega)|(conv=>whnf))|(refine AE ?_;conv=>whnf)|(refine AC (hV) ?_;conv=>whnf)|(refine AC (hD1) ?_;conv=>whnf)|(refine AC (hD2) ?_;conv=>whnf)|(refine AC (hB0) ?_;conv=>whnf)))
  refine NM (enc:=eQ) n hZ (by simp) ?_
  (conv=>whnf)
  by_cases hn0:n=0
  ·skip
   exact absurd hlt (by omega)
  ·(repeat' (first|(refine AG (fun hc => ?_) (fun hc => ?_)<;>first|(exfalso;omega)|(conv=>whnf))|(refine A3 ?_ ?_;omega;conv=>whnf)|(refine AC (hO) ?_;conv=>whnf)))
   refine O6 (enc:=eQ) 0 1 rfl rfl (fun _=>rfl) (by simp;omega) ?_
   (conv=>whnf)
   rw[show (List.replicate n (0:Rat)).set 0 1=EM n 0 from SW n 0]
   skip
   refine N6 ?_
   (repeat' (first|(refine AG (fun hc => ?_) (fun hc => ?_)<;>first|(exfalso;omega)|(conv=>whnf))|(refine AE ?_;conv=>whnf)))
   refine NM (enc:=eQ) n hZ (by simp) ?_
   (conv=>whnf)
   (repeat' (refine AG (fun hc => ?_) (fun hc => ?_)<;>first|(exfalso;omega)|(conv=>whnf)))
   refine CE (fun j=>n-j) (fun (j:Nat)=>j<=n) (fun j=>[(50,.int .i64 j)]) (fun j=>[(41,41,.rw 3 ((cz r0 n j).map eQ))]) [] [] 0 (by first|exact (by (conv=>whnf);exact ⟨rfl,rfl,rfl⟩)|(rw[iL];exact (by (conv=>whnf);exact ⟨rfl,rfl,rfl⟩))) (by omega) ?_
   intro j p1 ih
   have hcl2:=iJ (row:=r0) p1
   by_cases hj:j<n
   ·have hst:=iK (hr0 j hj) hj
    obtain ⟨f1,f2,f3,f4,f5⟩:=hcf j
    (repeat' (first|(refine AG (fun hc => ?_) (fun hc => ?_)<;>first|(exfalso;omega)|(conv=>whnf))|(refine A3 ?_ ?_;omega;conv=>whnf)|(refine A0 ?_ ?_;omega;conv=>whnf)|(refine AE ?_;conv=>whnf)|(refine AC (f2) ?_;conv=>whnf)|(refine AC (f5) ?_;conv=>whnf)))
    refine E9 (enc:=eQ) (-(A.getD (j+1) 0)) rfl (fun _=>rfl) (by omega) ?_
    (conv=>whnf)
    (repeat' (refine A0 ?_ ?_;omega;conv=>whnf))
    rw[hst]
    exact A4 [] (by (conv=>whnf);exact ⟨rfl,rfl,rfl⟩) (ih (j+1) (by omega) (by omega))
   obtain rfl:j=n:=by omega
   clear ih
   rw[iI hr0l]
   obtain ⟨f1,f2,f3,f4,f5⟩:=hcf 0
   (repeat' (first|(refine AG (fun hc => ?_) (fun hc => ?_)<;>first|(exfalso;omega)|(conv=>whnf))|(refine AE ?_;conv=>whnf)))
   refine A3 ⟨by rw[List.length_map];omega,by omega⟩ ?_
   (conv=>whnf)
   (repeat' (first|(refine A0 ?_ ?_;omega;conv=>whnf)|(refine EK ?_;conv=>whnf)|(refine AC (hB0) ?_;conv=>whnf)|(refine AC (f1) ?_;conv=>whnf)|(refine AC (f2) ?_;conv=>whnf)|(refine AC (f3) ?_;conv=>whnf)|(refine AC (f4) ?_;conv=>whnf)))
   refine VJ (enc:=eQ) (B.getD (0+1) 0-b0*A.getD (0+1) 0) rfl rfl (by omega) ?_
   (conv=>whnf)
   (repeat' (refine A0 ?_ ?_;omega;conv=>whnf))
   refine CE (fun i=>j-i) (fun (i:Nat)=>1<=i/\i<=j) (fun i=>[(37,.int .i64 i)]) (fun i=>[(5,5,.bx ([.row 67 0 1 0 i,.row 28 0 3 0 j,.row 88 0 3 0 i]++eQ b0)),(67,67,.mx (B6 3 eQ (a.take i))),(88,88,.rw 3 ((c.take i).map eQ))]) [] [] 1 (by first|exact (by (conv=>whnf);exact ⟨rfl,rfl,rfl⟩)|(rw[ha1 (by omega),hc1 (by omega)];exact (by (conv=>whnf);exact ⟨rfl,rfl,rfl⟩))) (by omega) ?_
   intro i ⟨g1,g2⟩ ih
   have hai2:(a.take i).length=i:=by rw[List.length_take];omega
   have hci2:(c.take i).length=i:=by rw[List.length_take];omega
   by_cases hi:i<j
   ·obtain ⟨f1,f2,f3,f4,f5⟩:=hcf i
    have hsa:=VB (hai i g1 hi)
    have hsc:=VB (hci i hi)
    have hai3:(a.take (i+1)).length=i+1:=by rw[List.length_take];omega
    have hci3:(c.take (i+1)).length=i+1:=by rw[List.length_take];omega
    have hul2:=hul ((i-1:Nat):Int)
    (repeat' (first|(refine AG (fun hc => ?_) (fun hc => ?_)<;>first|(exfalso;omega)|(conv=>whnf))|(refine AE ?_;conv=>whnf)))
    refine NM (enc:=eQ) j hZ (by simp) ?_
    (conv=>whnf)
    (repeat' (first|(refine AG (fun hc => ?_) (fun hc => ?_)<;>first|(exfalso;omega)|(conv=>whnf))|(refine A3 ?_ ?_;omega;conv=>whnf)|(refine CF ?_ ?_;omega;conv=>whnf)|(refine AC (hO) ?_;conv=>whnf)))
    refine O6 (enc:=eQ) (i-1) 1 (by omega) rfl (fun _=>rfl) (by simp;omega) ?_
    (conv=>whnf)
    rw[SW]
    skip
    refine A3 (by rw[List.length_map];omega) ?_
    refine RE (r:=EM j ((i-1:Nat):Int)) (en:=eQ) hai2.symm (by omega) (by omega) ?_
    rw[<-hsa,hai3]
    (conv=>whnf)
    (repeat' (first|(refine A0 ?_ ?_;omega;conv=>whnf)|(refine EK ?_;conv=>whnf)|(refine AC (hB0) ?_;conv=>whnf)|(refine AC (f1) ?_;conv=>whnf)|(refine AC (f2) ?_;conv=>whnf)|(refine AC (f3) ?_;conv=>whnf)|(refine AC (f4) ?_;conv=>whnf)))
    refine E2 (enc:=eQ) (B.getD (i+1) 0-b0*A.getD (i+1) 0) rfl hci2.symm rfl (by omega) (by omega) ?_
    rw[<-hsc,hci3]
    (conv=>whnf)
    (repeat' (refine A0 ?_ ?_;omega;conv=>whnf))
    exact A4 [(67,1000067),(88,1000088)] (by (conv=>whnf);exact ⟨rfl,rfl,rfl⟩) (ih (i+1) (by omega) (by omega))
   obtain rfl:i=j:=by omega
   clear ih
   rw[List.take_of_length_le (Nat.le_of_eq hal),List.take_of_length_le (Nat.le_of_eq hcl)]at *
   (repeat' (first|(refine AG (fun hc => ?_) (fun hc => ?_)<;>first|(exfalso;omega)|(conv=>whnf))|(refine AE ?_;conv=>whnf)))
   refine RL (fun _=>rfl) rfl hal.symm ?_
   (conv=>whnf)
   refine DE (enc:=eQ) (fun _=>rfl) rfl (hul 0).symm ?_
   (conv=>whnf)
   refine DE (enc:=eQ) (fun _=>rfl) rfl hcl.symm ?_
   (conv=>whnf)
   exact AY rfl hfin
 ·rw[show B.length-1=n by omega]at hD1 hge
  refine Ev.x N.IH rfl rfl ?_
  (repeat' (first|(refine AG (fun hc => ?_) (fun hc => ?_)<;>first|(exfalso;omega)|(conv=>whnf))|(refine AE ?_;conv=>whnf)|(refine AC (hV) ?_;conv=>whnf)|(refine AC (hD1) ?_;conv=>whnf)|(refine AC (hD2) ?_;conv=>whnf)|(refine AC (hB0) ?_;conv=>whnf)))
  refine NM (enc:=eQ) n hZ (by simp) ?_
  (conv=>whnf)
  by_cases hn0:n=0
  ·skip
   subst hn0
   (repeat' (refine AG (fun hc => ?_) (fun hc => ?_)<;>first|(exfalso;omega)|(conv=>whnf)))
   refine N6 ?_
   (repeat' (first|(refine AG (fun hc => ?_) (fun hc => ?_)<;>first|(exfalso;omega)|(conv=>whnf))|(refine DE (fun _=>rfl) rfl ?_ ?_;(first|rfl|simp);conv=>whnf)|(refine AE ?_;conv=>whnf)))
   rw[List.eq_nil_of_length_eq_zero hal,List.eq_nil_of_length_eq_zero hcl]at *
   exact AY rfl hfin
  ·(repeat' (first|(refine AG (fun hc => ?_) (fun hc => ?_)<;>first|(exfalso;omega)|(conv=>whnf))|(refine A3 ?_ ?_;omega;conv=>whnf)|(refine AC (hO) ?_;conv=>whnf)))
   refine O6 (enc:=eQ) 0 1 rfl rfl (fun _=>rfl) (by simp;omega) ?_
   (conv=>whnf)
   rw[show (List.replicate n (0:Rat)).set 0 1=EM n 0 from SW n 0]
   skip
   refine N6 ?_
   (repeat' (first|(refine AG (fun hc => ?_) (fun hc => ?_)<;>first|(exfalso;omega)|(conv=>whnf))|(refine AE ?_;conv=>whnf)))
   refine NM (enc:=eQ) n hZ (by simp) ?_
   (conv=>whnf)
   (repeat' (refine AG (fun hc => ?_) (fun hc => ?_)<;>first|(exfalso;omega)|(conv=>whnf)))
   refine CE (fun j=>n-j) (fun (j:Nat)=>j<=n) (fun j=>[(50,.int .i64 j)]) (fun j=>[(41,41,.rw 3 ((cz r0 n j).map eQ))]) [] [] 0 (by first|exact (by (conv=>whnf);exact ⟨rfl,rfl,rfl⟩)|(rw[iL];exact (by (conv=>whnf);exact ⟨rfl,rfl,rfl⟩))) (by omega) ?_
   intro j p1 ih
   have hcl2:=iJ (row:=r0) p1
   by_cases hj:j<n
   ·have hst:=iK (hr0 j hj) hj
    obtain ⟨f1,f2,f3,f4,f5⟩:=hcf j
    (repeat' (first|(refine AG (fun hc => ?_) (fun hc => ?_)<;>first|(exfalso;omega)|(conv=>whnf))|(refine A3 ?_ ?_;omega;conv=>whnf)|(refine A0 ?_ ?_;omega;conv=>whnf)|(refine AE ?_;conv=>whnf)|(refine AC (f2) ?_;conv=>whnf)|(refine AC (f5) ?_;conv=>whnf)))
    refine E9 (enc:=eQ) (-(A.getD (j+1) 0)) rfl (fun _=>rfl) (by omega) ?_
    (conv=>whnf)
    (repeat' (refine A0 ?_ ?_;omega;conv=>whnf))
    rw[hst]
    exact A4 [] (by (conv=>whnf);exact ⟨rfl,rfl,rfl⟩) (ih (j+1) (by omega) (by omega))
   obtain rfl:j=n:=by omega
   clear ih
   rw[iI hr0l]
   obtain ⟨f1,f2,f3,f4,f5⟩:=hcf 0
   (repeat' (first|(refine AG (fun hc => ?_) (fun hc => ?_)<;>first|(exfalso;omega)|(conv=>whnf))|(refine AE ?_;conv=>whnf)))
   refine A3 ⟨by rw[List.length_map];omega,by omega⟩ ?_
   (conv=>whnf)
   (repeat' (first|(refine A0 ?_ ?_;omega;conv=>whnf)|(refine EK ?_;conv=>whnf)|(refine AC (hB0) ?_;conv=>whnf)|(refine AC (f1) ?_;conv=>whnf)|(refine AC (f2) ?_;conv=>whnf)|(refine AC (f3) ?_;conv=>whnf)|(refine AC (f4) ?_;conv=>whnf)))
   refine VJ (enc:=eQ) (B.getD (0+1) 0-b0*A.getD (0+1) 0) rfl rfl (by omega) ?_
   (conv=>whnf)
   (repeat' (refine A0 ?_ ?_;omega;conv=>whnf))
   refine CE (fun i=>j-i) (fun (i:Nat)=>1<=i/\i<=j) (fun i=>[(37,.int .i64 i)]) (fun i=>[(5,5,.bx ([.row 67 0 1 0 i,.row 28 0 3 0 j,.row 88 0 3 0 i]++eQ b0)),(67,67,.mx (B6 3 eQ (a.take i))),(88,88,.rw 3 ((c.take i).map eQ))]) [] [] 1 (by first|exact (by (conv=>whnf);exact ⟨rfl,rfl,rfl⟩)|(rw[ha1 (by omega),hc1 (by omega)];exact (by (conv=>whnf);exact ⟨rfl,rfl,rfl⟩))) (by omega) ?_
   intro i ⟨g1,g2⟩ ih
   have hai2:(a.take i).length=i:=by rw[List.length_take];omega
   have hci2:(c.take i).length=i:=by rw[List.length_take];omega
   by_cases hi:i<j
   ·obtain ⟨f1,f2,f3,f4,f5⟩:=hcf i
    have hsa:=VB (hai i g1 hi)
    have hsc:=VB (hci i hi)
    have hai3:(a.take (i+1)).length=i+1:=by rw[List.length_take];omega
    have hci3:(c.take (i+1)).length=i+1:=by rw[List.length_take];omega
    have hul2:=hul ((i-1:Nat):Int)
    (repeat' (first|(refine AG (fun hc => ?_) (fun hc => ?_)<;>first|(exfalso;omega)|(conv=>whnf))|(refine AE ?_;conv=>whnf)))
    refine NM (enc:=eQ) j hZ (by simp) ?_
    (conv=>whnf)
    (repeat' (first|(refine AG (fun hc => ?_) (fun hc => ?_)<;>first|(exfalso;omega)|(conv=>whnf))|(refine A3 ?_ ?_;omega;conv=>whnf)|(refine CF ?_ ?_;omega;conv=>whnf)|(refine AC (hO) ?_;conv=>whnf)))
    refine O6 (enc:=eQ) (i-1) 1 (by omega) rfl (fun _=>rfl) (by simp;omega) ?_
    (conv=>whnf)
    rw[SW]
    skip
    refine A3 (by rw[List.length_map];omega) ?_
    refine RE (r:=EM j ((i-1:Nat):Int)) (en:=eQ) hai2.symm (by omega) (by omega) ?_
    rw[<-hsa,hai3]
    (conv=>whnf)
    (repeat' (first|(refine A0 ?_ ?_;omega;conv=>whnf)|(refine EK ?_;conv=>whnf)|(refine AC (hB0) ?_;conv=>whnf)|(refine AC (f1) ?_;conv=>whnf)|(refine AC (f2) ?_;conv=>whnf)|(refine AC (f3) ?_;conv=>whnf)|(refine AC (f4) ?_;conv=>whnf)))
    refine E2 (enc:=eQ) (B.getD (i+1) 0-b0*A.getD (i+1) 0) rfl hci2.symm rfl (by omega) (by omega) ?_
    rw[<-hsc,hci3]
    (conv=>whnf)
    (repeat' (refine A0 ?_ ?_;omega;conv=>whnf))
    exact A4 [(67,1000067),(88,1000088)] (by (conv=>whnf);exact ⟨rfl,rfl,rfl⟩) (ih (i+1) (by omega) (by omega))
   obtain rfl:i=j:=by omega
   clear ih
   rw[List.take_of_length_le (Nat.le_of_eq hal),List.take_of_length_le (Nat.le_of_eq hcl)]at *
   (repeat' (first|(refine AG (fun hc => ?_) (fun hc => ?_)<;>first|(exfalso;omega)|(conv=>whnf))|(refine AE ?_;conv=>whnf)))
   refine RL (fun _=>rfl) rfl hal.symm ?_
   (conv=>whnf)
   refine DE (enc:=eQ) (fun _=>rfl) rfl (hul 0).symm ?_
   (conv=>whnf)
   refine DE (enc:=eQ) (fun _=>rfl) rfl hcl.symm ?_
   (conv=>whnf)
   exact AY rfl hfin
end Go.Eng

namespace Go.Eng
open F
attribute [local irreducible] AA AF AR AD B0 AU AX A8 A6 BN AP BK BV CN BI AZ BG BQ AB A7 AJ pw BH BF B9 B8 CI B7 CB BM B3
set_option maxHeartbeats 16000000
variable {L:Lib}
end Go.Eng

namespace Go.Eng
open F
attribute [local irreducible] AA AF AR AD B0 AU AX A8 A6 BN AP BK BV CN BI AZ BG BQ AB A7 AJ pw BH BF B9 B8 CI B7 CB BM B3
set_option maxHeartbeats 16000000
variable {L:Lib}
def II (a:List (List Rat)):List (List Rat):=(List.range a.length).map (DX a)
theorem AgX {a:List (List Rat)} {i:Nat} (h:i<a.length):(II a)[i]? = some (DX a i):=by
 simp only[II,List.getElem?_map,List.getElem?_range h,Option.map_some]
theorem dW (a:List (List Rat)):(II a).length=a.length:=by simp [II]
theorem xY {a:List (List Rat)} {i j:Nat} {r:List Rat} {x:Rat} (hr:a[j]? = some r) (hx:r[i]? = some x):(DX a i)[j]? = some x:=by
 simp only[DX,List.getElem?_map,hr,Option.map_some,IW hx]
theorem yG {B A:List Rat} {n:Nat} : ∀ r∈(EC B A n).a,r.length=n:=by
 intro r hr
 simp only[EC,List.mem_map]at hr
 obtain ⟨i,_,rfl⟩:=hr
 split
 ·simp
 ·exact PV _ _
theorem uF {R:List (Option (Nat × List (List AV)))} {e:Nat} {r:Option (Nat × List (List AV))} {K:Option (Nat × List (List AV))->Prop} (h:R[e]? = some r) (hk:K r):BH R e K:=by
 unfold BH
 exact ⟨r,h,hk⟩
theorem AbI (N:StGLib L) (q:Bool) (a:List (List Rat)) (n:Nat) (hal:a.length=n) (har : ∀ r∈a,r.length=n) (hn:n<=65536):Ev L 212 [.sl q (a.map fun r=>[AV.sl false (r.map eQ)])] (.sl false ((II a).map fun r=>[AV.sl false (r.map eQ)])):=by
 have hat : ∀ i,i<n->(II a)[i]? = some (DX a i):=fun i h=>AgX (by omega)
 have htl:=dW a
 have hcol : ∀ i,(DX a i).length=n:=fun i=>by simp [DX,hal]
 have hx : ∀ i j,i<n->j<n -> ∃ r x,a[j]? = some r/\r[i]? = some x/\(DX a i)[j]? = some x:=fun i j h1 h2=>by
  obtain ⟨r,hr⟩ : ∃ r,a[j]? = some r:=⟨_,zE (by omega)⟩
  have hrl:=har r (zM hr)
  obtain ⟨x,hx⟩ : ∃ x,r[i]? = some x:=⟨_,zE (by omega)⟩
  exact ⟨r,x,hr,hx,xY hr hx⟩
 generalize hT:II a=T at *
 refine Ev.x N.LY rfl rfl ?_
 (repeat' (first|(refine AW ?_;conv=>whnf)|(refine AE ?_;conv=>whnf)))
 unfold CI
 refine ⟨⟨by omega,by omega,by simp only[EJ];omega,by omega⟩,?_⟩
 rw[Int.toNat_natCast,hal]
 (conv=>whnf)
 skip
 refine CE (fun i=>n-i) (fun (i:Nat)=>i<=n) (fun i=>[(4,.int .i64 i)]) (fun i=>[(8,8,.mx (mz T n i))]) [] [] 0 (by first|exact (by (conv=>whnf);exact ⟨rfl,rfl,rfl⟩)|(rw[<-Adz T];exact (by (conv=>whnf);exact ⟨rfl,rfl,rfl⟩))) (by omega) ?_
 intro i p1 ih
 have hzl:=Adx (Q:=T) p1
 by_cases hi:i<n
 ·have hst:=Ady (hat i hi) hi
  have hci:=hcol i
  have hnone:(mz T n i)[i]? = some none:=by
   have hl:(B6 3 eQ (T.take i)).length=i:=by simp only[B6,List.length_map,List.length_take];omega
   have:=AbN (z:=(none:Option (Nat × List (List AV)))) (l:=B6 3 eQ (T.take i)) (m:=n) (by omega)
   rw[hl]at this
   exact this
  obtain ⟨r,x,e1,e2,e3⟩:=hx i 0 hi (by omega)
  have e1':a[(0:Int).toNat]? = some r:=e1
  have e2':r[(i:Int).toNat]? = some x:=e2
  have hrl:=har r (zM e1)
  have hc1:(DX a i).take 1=[x]:=by rw[List.take_add_one,e3];rfl
  generalize mz T n i=R0 at *
  (repeat' (first|(refine AG (fun hc => ?_) (fun hc => ?_)<;>first|(exfalso;omega)|(conv=>whnf))|(refine AW ?_;conv=>whnf)|(refine AE ?_;conv=>whnf)))
  refine N6 ?_
  (repeat' (first|(refine AG (fun hc => ?_) (fun hc => ?_)<;>first|(exfalso;omega)|(conv=>whnf))|(refine A3 ?_ ?_;omega;conv=>whnf)|(refine AW ?_;conv=>whnf)|(refine AE ?_;conv=>whnf)))
  refine uF (r:=none) (by rw[Nat.zero_add,Int.toNat_natCast];exact hnone) ?_
  (conv=>whnf)
  (repeat' (first|(refine BL (by assumption) ?_ rfl ?_;omega;conv=>whnf)|(refine EK ?_;conv=>whnf)))
  refine VJ (enc:=eQ) x rfl rfl (by omega) ?_
  (conv=>whnf)
  (repeat' (first|(refine A3 ?_ ?_;omega;conv=>whnf)|fail))
  refine A3 rfl ?_
  refine YP (i:=i) (by omega) (by omega) ?_
  (conv=>whnf)
  (repeat' (refine A0 ?_ ?_;omega;conv=>whnf))
  refine CE (fun j=>n-j) (fun (j:Nat)=>1<=j/\j<=n) (fun j=>[(5,.int .i64 j)]) (fun j=>[(8,8,.mx (R0.set i (some (3,((DX a i).take j).map eQ))))]) [] [] 1 (by first|exact (by (conv=>whnf);exact ⟨rfl,rfl,rfl⟩)|(rw[hc1];exact (by (conv=>whnf);exact ⟨rfl,rfl,rfl⟩))) (by omega) ?_
  intro j ⟨r1,r2⟩ jh
  have htj:((DX a i).take j).length=j:=by rw[List.length_take];omega
  by_cases hj:j<n
  ·obtain ⟨r,x,e1,e2,e3⟩:=hx i j hi hj
   have e1':a[(j:Int).toNat]? = some r:=e1
   have e2':r[(i:Int).toNat]? = some x:=e2
   have hrl:=har r (zM e1)
   have hs:=VB e3
   have htj1:((DX a i).take (j+1)).length=j+1:=by rw[List.length_take];omega
   generalize (DX a i).take j=W at *
   (repeat' (first|(refine AG (fun hc => ?_) (fun hc => ?_)<;>first|(exfalso;omega)|(conv=>whnf))|(refine A3 ?_ ?_;omega;conv=>whnf)|(refine AW ?_;conv=>whnf)|(refine AE ?_;conv=>whnf)))
   refine S8 (by omega) (by omega) ?_
   (conv=>whnf)
   (repeat' (first|(refine BL (by assumption) ?_ rfl ?_;omega;conv=>whnf)|(refine EK ?_;conv=>whnf)))
   refine S6 (by omega) (by omega) ?_
   (conv=>whnf)
   refine E2 (enc:=eQ) x rfl (by rw[List.length_map]) rfl (by omega) (by omega) ?_
   intro s' v
   rw[<-hs,htj1]
   (conv=>whnf)
   (repeat' (first|(refine A3 ?_ ?_;omega;conv=>whnf)|fail))
   refine A3 ⟨rfl,by rw[List.length_map];omega⟩ ?_
   refine YP (i:=i) (by omega) (by rw[List.length_set,List.length_set];omega) ?_
   rw[show 0+((i:Int)).toNat=i by omega,List.set_set,List.set_set]
   (conv=>whnf)
   (repeat' (refine A0 ?_ ?_;omega;conv=>whnf))
   exact A4 [] (by (conv=>whnf);exact ⟨rfl,rfl,rfl⟩) (jh (j+1) (by omega) (by omega))
  obtain rfl:j=n:=by omega
  clear jh
  rw[List.take_of_length_le (by omega),hst]
  (repeat' (first|(refine AG (fun hc => ?_) (fun hc => ?_)<;>first|(exfalso;omega)|(conv=>whnf))|(refine A0 ?_ ?_;omega;conv=>whnf)|(refine AW ?_;conv=>whnf)|(refine AE ?_;conv=>whnf)))
  exact A4 [] (by (conv=>whnf);exact ⟨rfl,rfl,rfl⟩) (ih (i+1) (by omega) (by omega))
 obtain rfl:i=n:=by omega
 clear ih
 rw[Adw (by omega)]
 (repeat' (first|(refine AG (fun hc => ?_) (fun hc => ?_)<;>first|(exfalso;omega)|(conv=>whnf))|(refine AW ?_;conv=>whnf)|(refine AE ?_;conv=>whnf)))
 refine RL (fun _=>rfl) rfl (by omega) ?_
 (conv=>whnf)
 exact AY rfl (by
  have:=WC ⟨T,[],[],0⟩
  simp only[A9,CY,true_and,and_true]at this ⊢
  have h2:=this.1
  simp only[A9,true_and]at h2
  exact h2)
end Go.Eng

namespace Go.Eng
open F
attribute [local irreducible] AA AF AR AD B0 AU AX A8 A6 BN AP BK BV CN BI AZ BG BQ AB A7 AJ pw BH BF B9 B8 CI B7 CB BM B3
set_option maxHeartbeats 1000000
variable {L:Lib}
end Go.Eng

namespace Go.Eng
open F
attribute [local irreducible] AA AF AR AD B0 AU AX A8 A6 BN AP BK BV CN BI AZ BG BQ AB A7 AJ pw BH BF B9 B8 CI B7 CB BM B3
set_option maxHeartbeats 4000000
variable {L:Lib}
def SK (v:Int):Rat:=Rat.divInt (v%25-12) (1+v/25%8)
def F4 (l:List Int) (n:Nat):List Rat:=(List.range n).map fun i:Nat=>SK (F8 (HK l (i:Int)) 2000)
theorem SL (l:List Int) (n:Nat):(F4 l n).length=n:=by simp [F4]
theorem Af2 (l:List Int) (n:Nat):F4 l (n+1)=F4 l n++[SK (F8 (HK l (n:Int)) 2000)]:=by simp [F4,List.range_succ]
theorem Af1 {v:Int} (h:0<=v):Bt 4 (SK v):=by
 unfold SK
 obtain ⟨d,hd⟩:=Int.eq_ofNat_of_zero_le (show 0<=1+v/25%8 by omega)
 rw[hd,Rat.divInt_ofNat]
 refine Bt.mk ?_ ?_
 ·show _<=16;omega
 ·show _<=16;omega
theorem pJ (l:List Int) (n:Nat):Bs 4 (F4 l n):=by
 intro x hx
 simp only[F4,List.mem_map]at hx
 obtain ⟨i,_,rfl⟩:=hx
 refine Af1 ?_
 unfold F8
 split<;>omega
theorem jZ (N:RatsGLib L) (l:List Int) (q:Bool) (n:Nat) (hl : ∀ x∈l,G1 x) (hn:n<=1000000):Ev L 141 [.sl q (l.map NZ),.int .i64 (n:Int)] (.sl false ((F4 l n).map eQ)):=by
 have hat : ∀ i:Nat,G1 (HK l (i:Int)):=fun i=>by
  unfold HK
  split
  ·rw[List.getD_eq_getElem?_getD]
   cases e:l[((i:Int)).toNat]? with
   | none=>simp [G1]
   | some x=>exact hl x (zM e)
  ·simp [G1]
 refine Ev.x N.MC rfl rfl ?_
 (repeat' (refine AE ?_;conv=>whnf))
 refine CE (fun i=>n-i) (fun (i:Nat)=>i<=n) (fun i=>[(6,.int .i64 i),(5,.row 5 0 3 0 i)]) (fun i=>[(5,5,.rw 3 ((F4 l i).map eQ))]) [] [] 0 (by (conv=>whnf);exact ⟨rfl,rfl,rfl⟩) (by omega) ?_
 intro i p1 ih
 by_cases hi:i<n
 ·have hA:=lG N.toWorldLib l q (i:Int)
  have hA':=fun q=>lG N.toWorldLib l q (i:Int)
  have hW:=aB N.toWorldLib (HK l (i:Int)) 2000 (hat i) (by omega)
  have hw0:0<=F8 (HK l (i:Int)) 2000/\F8 (HK l (i:Int)) 2000<2000:=by unfold F8;split<;>omega
  have hsucc:=Af2 l i
  have hlen:=SL l i
  have hF:=kV N.toRefGLib (F8 (HK l (i:Int)) 2000%25-12) (1+F8 (HK l (i:Int)) 2000/25%8) (by omega) (by omega)
  have hF':Ev L 125 [.int .i64 (F8 (HK l (i:Int)) 2000%25-12),.int .i64 (1+F8 (HK l (i:Int)) 2000/25%8)] (.agg (eQ (SK (F8 (HK l (i:Int)) 2000)))):=hF
  clear hF
  generalize SK (F8 (HK l (i:Int)) 2000)=y at *
  generalize F8 (HK l (i:Int)) 2000=v at *
  (repeat' (first|(refine AG (fun hc => ?_) (fun hc => ?_)<;>first|(exfalso;omega)|(conv=>whnf))|(refine A0 ?_ ?_;omega;conv=>whnf)|(refine CF ?_ ?_;omega;conv=>whnf)|(refine RJ ?_ (fun _ _ _ => ?_) (fun _ _ _ _ => ?_);omega;all_goals first|(exfalso;omega)|(conv=>whnf))|(refine P0 ?_ ?_ (fun _ => ?_) (fun _ _ => ?_);omega;omega;all_goals first|(exfalso;omega)|(conv=>whnf))|(refine EK ?_;conv=>whnf)|(refine AE ?_;conv=>whnf)|(refine AC (hA' _) ?_;conv=>whnf)|(refine AC (hW) ?_;conv=>whnf)|(refine AC (hF') ?_;conv=>whnf)))
  refine E2 (enc:=eQ) y rfl hlen.symm rfl (by omega) (by omega) ?_
  (conv=>whnf)
  (repeat' (refine A0 ?_ ?_;omega;conv=>whnf))
  rw[show (F4 l i++[y]).length=i+1 by simp [hlen],<-hsucc]
  exact A4 [(5,27)] (by (conv=>whnf);exact ⟨rfl,rfl,rfl⟩) (ih (i+1) (by omega) (by omega))
 ·obtain rfl:i=n:=by omega
  clear ih
  have hlen:=SL l i
  (repeat' (first|(refine AG (fun hc => ?_) (fun hc => ?_)<;>first|(exfalso;omega)|(conv=>whnf))|(refine AE ?_;conv=>whnf)))
  refine DE (enc:=eQ) (fun _=>rfl) rfl hlen.symm ?_
  (conv=>whnf)
  exact AY rfl (by simp only[A9,true_and];exact FR _)
def NH (X:List Rat) (n j:Nat):List Rat:=(X.take (j*n+n)).drop (j*n)
def FM (X:List Rat) (n i:Nat):List (List Rat):=(List.range i).map (NH X n)
theorem pW (X:List Rat) (n i:Nat):FM X n (i+1)=FM X n i++[NH X n i]:=by simp [FM,List.range_succ]
def PR (l:List Int) (n:Nat):B4 :=
 let X:=F4 l (n*n+2*n+1)
 ⟨FM X n n,(X.take (n*n+n)).drop (n*n),(X.take (n*n+2*n)).drop (n*n+n),X.getD (n*n+2*n) 0⟩
theorem kA (N:RatsGLib L) (l:List Int) (q:Bool) (n:Nat) (hl : ∀ x∈l,G1 x) (hn:n<=64):Ev L 142 [.sl q (l.map NZ),.int .i64 (n:Int)] (.agg (eS (PR l n))):=by
 have hnn:n*n<=4096:=Nat.mul_le_mul hn hn
 have hR:=fun q=>jZ N l q (n*n+2*n+1) hl (by omega)
 have hXl:=SL l (n*n+2*n+1)
 have hc1:((n*n+2*n+1:Nat):Int)=(n:Int)*n+2*n+1:=by simp
 rw[hc1]at hR
 have e1:((n:Int)*n).toNat=n*n:=by rw[<-Int.natCast_mul];rfl
 have e2:((n:Int)*n+n).toNat=n*n+n:=by rw[<-Int.natCast_mul];omega
 have e3:((n:Int)*n+2*n).toNat=n*n+2*n:=by rw[<-Int.natCast_mul];omega
 unfold PR
 simp only[]
 generalize F4 l (n*n+2*n+1)=X at *
 obtain ⟨d,hd0⟩ : ∃ d,X[n*n+2*n]? = some d:=⟨_,zE (by omega)⟩
 have hd1:X[((n:Int)*n+2*n).toNat]? = some d:=by rw[e3];exact hd0
 have hdD:X.getD (n*n+2*n) 0=d:=by rw[List.getD_eq_getElem?_getD,hd0];rfl
 rw[hdD]
 refine Ev.x N.MD rfl rfl ?_
 (repeat' (first|(refine A0 ?_ ?_;omega;conv=>whnf)|(refine MI ?_ ?_;omega;conv=>whnf)|(refine BL (by assumption) ?_ rfl ?_;omega;conv=>whnf)|(refine RK (fun _=>rfl) (S1 ?_ ?_);omega;conv=>whnf)|(refine AE ?_;conv=>whnf)|(refine AC (hR _) ?_;conv=>whnf)))
 rw[e1,e2,e3]
 generalize (X.take (n*n+n)).drop (n*n)=B at *
 generalize (X.take (n*n+2*n)).drop (n*n+n)=C at *
 refine HG (fun i _=>n-i) (fun (i:Nat) (fl:Bool)=>i<=n/\fl=decide (i=0)) (fun i _=>[(7,.int .i64 i)]) (fun i fl=>bif fl then [] else [(6,6,.bx ([.row 1000 0 1 0 i,.sl false (B.map eQ),.sl false (C.map eQ)]++eQ d)),(1000,68,.rw 1 ((FM X n i).map fun r=>[AV.sl false (r.map eQ)]))]) [] [] 0 true (by (conv=>whnf);exact ⟨rfl,rfl,rfl⟩) ⟨by omega,by simp⟩ ?_
 intro i fl ⟨p1,p2⟩ ih
 have hrl:(FM X n i).length=i:=by simp [FM]
 by_cases hi:i<n
 ·have h1:i*n+n<=n*n:=by
   have:=Nat.mul_le_mul_right n (show i+1<=n by omega)
   rw[Nat.succ_mul]at this;exact this
  have f1:((i:Int)*n).toNat=i*n:=by rw[<-Int.natCast_mul];rfl
  have f2:((i:Int)*n+n).toNat=i*n+n:=by rw[<-Int.natCast_mul];omega
  have f3:0<=(i:Int)*n:=by rw[<-Int.natCast_mul];omega
  have f4:(i:Int)*n+n<=X.length:=by rw[<-Int.natCast_mul];omega
  have f5:NH X n i=(X.take (i*n+n)).drop (i*n):=rfl
  have hsucc:=pW X n i
  cases fl
  ·have hi0:i≠0:=by simpa using p2.symm
   (repeat' (first|(refine AG (fun hc => ?_) (fun hc => ?_)<;>first|(exfalso;omega)|(conv=>whnf))|(refine A0 ?_ ?_;omega;conv=>whnf)|(refine MI ?_ ?_;omega;conv=>whnf)|(refine RK (fun _=>rfl) (S1 ?_ ?_);omega;conv=>whnf)|(refine EK ?_;conv=>whnf)|(refine AE ?_;conv=>whnf)))
   rw[f1,f2,<-f5]
   refine E2 (l:=FM X n i) (z:=1) (bytes:=24) (enc:=fun r:List Rat=>[AV.sl false (r.map eQ)]) (NH X n i) rfl hrl.symm rfl (by omega) (by omega) ?_
   (conv=>whnf)
   (repeat' (refine A0 ?_ ?_;omega;conv=>whnf))
   rw[<-hsucc,show (FM X n (i+1)).length=i+1 by simp [FM]]
   exact A4 [(1000,68)] (by (conv=>whnf);exact ⟨rfl,rfl,rfl⟩) (ih (i+1) false (by omega) ⟨by omega,by simp⟩)
  ·have hi0:i=0:=by simpa using p2.symm
   subst hi0
   (repeat' (first|(refine AG (fun hc => ?_) (fun hc => ?_)<;>first|(exfalso;omega)|(conv=>whnf))|(refine A0 ?_ ?_;omega;conv=>whnf)|(refine MI ?_ ?_;omega;conv=>whnf)|(refine RK (fun _=>rfl) (S1 ?_ ?_);omega;conv=>whnf)|(refine EK ?_;conv=>whnf)|(refine AE ?_;conv=>whnf)))
   rw[f1,f2,<-f5]
   refine VJ (enc:=fun r=>[AV.sl false (r.map eQ)]) (NH X n 0) rfl rfl (by omega) ?_
   (conv=>whnf)
   (repeat' (refine A0 ?_ ?_;omega;conv=>whnf))
   exact A4 [(1000,68)] (by (conv=>whnf);exact ⟨rfl,rfl,rfl⟩) (ih 1 false (by omega) ⟨by omega,by simp⟩)
 ·obtain rfl:i=n:=by omega
  clear ih
  cases fl
  ·(repeat' (first|(refine AG (fun hc => ?_) (fun hc => ?_)<;>first|(exfalso;omega)|(conv=>whnf))|(refine AE ?_;conv=>whnf)))
   refine DE (enc:=fun r=>[AV.sl false (r.map eQ)]) (fun _=>rfl) rfl hrl.symm ?_
   (conv=>whnf)
   skip
   exact AY rfl (WC _)
  ·have hi0:i=0:=by simpa using p2.symm
   subst hi0
   (repeat' (first|(refine AG (fun hc => ?_) (fun hc => ?_)<;>first|(exfalso;omega)|(conv=>whnf))|(refine AE ?_;conv=>whnf)))
   exact AY rfl (WC ⟨[],B,C,d⟩)
end Go.Eng



namespace Go.Eng
open F
attribute [local irreducible] AA AF AR AD B0 AU AX A8 A6 BN AP BK BV CN BI AZ BG BQ AB A7 AJ pw BH BF B9 B8 CI B7 CB BM B3
set_option maxHeartbeats 8000000
variable {L:Lib}
theorem pU {X:List Rat} {n j:Nat} (h:j*n+n<=X.length):(NH X n j).length=n:=by
 simp only[NH,List.length_drop,List.length_take];omega
theorem rM (l:List Int) (n:Nat):(PR l n).Ok n 4:=by
 have hX:=SL l (n*n+2*n+1)
 have hb:=pJ l (n*n+2*n+1)
 have mem : ∀ (i j:Nat) (x:Rat),x∈((F4 l (n*n+2*n+1)).take j).drop i->Bt 4 x:=fun i j x hx=>hb x (List.mem_of_mem_take (List.mem_of_mem_drop hx))
 have hr : ∀ r∈FM (F4 l (n*n+2*n+1)) n n,∃ j,j<n/\r=NH (F4 l (n*n+2*n+1)) n j:=fun r hr=>by
  simp only[FM,List.mem_map,List.mem_range]at hr
  obtain ⟨j,h1,rfl⟩:=hr
  exact ⟨j,h1,rfl⟩
 refine ⟨by simp [PR,FM],?_,?_,?_,?_,fun x hx=>mem _ _ x hx,fun x hx=>mem _ _ x hx,?_⟩
 ·intro r h
  obtain ⟨j,h1,rfl⟩:=hr r h
  refine pU ?_
  have:=Nat.mul_le_mul_right n (show j+1<=n by omega)
  rw[Nat.succ_mul]at this
  omega
 ·simp only[PR,List.length_drop,List.length_take];omega
 ·simp only[PR,List.length_drop,List.length_take];omega
 ·intro r h x hx
  obtain ⟨j,h1,rfl⟩:=hr r h
  exact mem _ _ x hx
 ·show Bt 4 ((F4 l (n*n+2*n+1)).getD (n*n+2*n) 0)
  rw[List.getD_eq_getElem?_getD]
  cases e:(F4 l (n*n+2*n+1))[n*n+2*n]? with
  | none=>exact Bt.zero 4
  | some x=>exact hb.at e
theorem B4.Ok.le {S:B4} {n k j:Nat} (h:S.Ok n k) (hj:k<=j):S.Ok n j:=⟨h.la,h.lr,h.lb,h.lc,fun r hr=>(h.ba r hr).le hj,h.bb.le hj,h.bc.le hj,h.bd.le hj⟩
theorem B4.Ok.outs_bs {S:B4} {n k K:Nat} (h:S.Ok n k) : ∀ (xs now:List Rat) (s:Nat),now.length=n->Bs s now->Bs k xs->(∀ i,i<=xs.length->MU n k s i<=K)->Bs K (S.outs now xs)/\Bs K (S.state now xs)
 | [],now,s,_,hs,_,hK=>⟨fun x hx=>by simp [B4.outs]at hx,hs.le (hK 0 (by simp))⟩
 | x::xs,now,s,hl,hs,hx,hK=>by
  obtain ⟨b1,b2⟩:=h.next_bs hl hs (hx x (by simp))
  obtain ⟨c1,c2⟩:=h.outs_bs xs (S.next now x) (N4 n k s) (h.next_len now x) b1 (fun z hz=>hx z (by simp [hz])) (fun i hi=>hK (i+1) (by simp;omega))
  refine ⟨?_,c2⟩
  intro z hz
  simp only[B4.outs,List.mem_cons]at hz
  rcases hz with rfl|hz
  ·exact b2.le (hK 1 (by simp))
  ·exact c1 z hz
end Go.Eng

namespace Go.Eng
open F
attribute [local irreducible] AA AF AR AD B0 AU AX A8 A6 BN AP BK BV CN BI AZ BG BQ AB A7 AJ pw BH BF B9 B8 CI B7 CB BM B3
set_option maxHeartbeats 16000000
set_option maxRecDepth 8000
variable {L:Lib}
theorem Aby (N:EquGLib L) (q1 q2 q3 q4:Bool) (B1 A1 B2 A2:List Rat) (k:Nat) (t1:B5 B1=B1) (t2:B5 A1=A1) (t3:B5 B2=B2) (t4:B5 A2=A2) (l1:B1.length<=12) (l2:A1.length<=12) (l3:B2.length<=12) (l4:A2.length<=12) (b1:Bs k B1) (b2:Bs k A1) (b3:Bs k B2) (b4:Bs k A2) (hk:k<=100000) (h1:A1[0]? = some 1) (h2:A2[0]? = some 1) :
  ∃ b:Bool,Ev L 283 [.agg [.sl q1 (B1.map eQ),.sl q2 (A1.map eQ)],.agg [.sl q3 (B2.map eQ),.sl q4 (A2.map eQ)]] (.tup [.bool b,.int .i64 0])/\(b=true ↔ ∀ K,EE B1 A2 K=EE B2 A1 K):=by
 have hV1:=Z8 N.toStGLib q1 q2 B1 A1 k b1 b2 (by omega) (by omega) (by omega) h1
 have hV2:=Z8 N.toStGLib q3 q4 B2 A2 k b3 b4 (by omega) (by omega) (by omega) h2
 obtain ⟨R1,m1,n1,s1,hM1⟩:=kN N.toPolMLib q1 q4 B1 A2 k t1 t4 l1 l4 b1 b4 hk
 obtain ⟨R2,m2,n2,s2,hM2⟩:=kN N.toPolMLib q3 q2 B2 A1 k t3 t2 l3 l2 b3 b2 hk
 have u1:=NK R1
 have u2:=JC R1 R1.length
 have u3:=NK R2
 have u4:=JC R2 R2.length
 have hSm:=Abh N.toPolMLib false false (B5 R1) (B5 R2) (2000000*k+1000) (SU _) (SU _) (by omega) (by omega) s1.trim s2.trim (by omega)
 have hiff:decide (B5 R1=B5 R2)=true ↔ ∀ K,EE B1 A2 K=EE B2 A1 K:=by
  rw[decide_eq_true_iff]
  constructor
  ·intro h K
   rw[<-m1,<-m2,<-NJ R1,h,NJ]
  ·intro h
   exact AgW (SU _) (fun i=>by rw[NJ,m1,m2,h])
 refine ⟨decide (B5 R1=B5 R2),?_,hiff⟩
 clear hiff m1 m2 n1 n2 s1 s2 u1 u2 u3 u4 t1 t2 t3 t4 l1 l2 l3 l4 b1 b2 b3 b4 h1 h2
 generalize decide (B5 R1=B5 R2)=b at *
 generalize B5 R1=P1 at *
 generalize B5 R2=P2 at *
 refine Ev.x N.LZ rfl rfl ?_
 (repeat' (first|(refine AE ?_;conv=>whnf)|(refine AC (hV1) ?_;conv=>whnf)|(refine AC (hV2) ?_;conv=>whnf)|(refine AC (hM1) ?_;conv=>whnf)|(refine AC (hM2) ?_;conv=>whnf)|(refine AC (hSm) ?_;conv=>whnf)))
 exact AY rfl (by simp only[A9,CY,true_and,and_true])
theorem lF (N:EquGLib L) (S:B4) (n k:Nat) (h:S.Ok n k) (hn:n<=16):Ev L 281 [.agg (eS S)] (.bool true):=by
 have hSd:=WR N.toSysGLib S n k h (by omega)
 have hla:=h.la
 refine Ev.x N.L5 rfl rfl ?_
 (repeat' (first|(refine AG (fun hc => ?_) (fun hc => ?_)<;>first|(exfalso;omega)|(conv=>whnf))|(refine AW ?_;conv=>whnf)|(refine AE ?_;conv=>whnf)|(refine AC (hSd) ?_;conv=>whnf)))
 exact IK rfl
theorem AbF (N:EquGLib L) (S:B4) (n k:Nat) (h:S.Ok n k) (hn:n<=16):Ev L 284 [.agg (eS S)] (.bool true):=by
 have hSd:=AaY N.toSysGLib S n k h (by omega)
 have hla:=h.la
 refine Ev.x N.LX rfl rfl ?_
 (repeat' (first|(refine AG (fun hc => ?_) (fun hc => ?_)<;>first|(exfalso;omega)|(conv=>whnf))|(refine AW ?_;conv=>whnf)|(refine AE ?_;conv=>whnf)|(refine AC (hSd) ?_;conv=>whnf)))
 exact IK rfl
theorem AaP (N:EquGLib L) (S U:B4) (n m k:Nat) (hS:S.Ok n k) (hU:U.Ok m k) (hn:n<=16) (hm:m<=16) (hK1 : ∀ i,i<=n+m+1->MU n k 0 i<=1000000) (hK2 : ∀ i,i<=n+m+1->MU m k 0 i<=1000000) (hk:k<=1000000) :
  ∃ b:Bool,Ev L 282 [.agg (eS S),.agg (eS U)] (.tup [.bool b,.int .i64 0])/\(b=true ↔ ∀ K,K<n+m+1->hQ S K=hQ U K):=by
 have hS1:=lF N S n k hS hn
 have hS2:=lF N U m k hU hm
 have hla:=hS.la
 have hlb:=hU.la
 have hI1:=jX N.toSysGLib S n k (n+m+1) hS (by omega) (by omega) (fun i hi=>by have:=hK1 i hi;omega) (by omega)
 have hI2:=jX N.toSysGLib U m k (n+m+1) hU (by omega) (by omega) (fun i hi=>by have:=hK2 i hi;omega) (by omega)
 obtain ⟨u1,_⟩:=hS.outs_bs (K:=1000000) (GU (n+m+1)) (List.replicate n 0) 0 (by simp) (Bs.zeros _ _) (aT _ _) (fun i hi=>hK1 i (by rw[R9]at hi;omega))
 obtain ⟨u2,_⟩:=hU.outs_bs (K:=1000000) (GU (n+m+1)) (List.replicate m 0) 0 (by simp) (Bs.zeros _ _) (aT _ _) (fun i hi=>hK2 i (by rw[R9]at hi;omega))
 have l1:=XG S (GU (n+m+1)) (List.replicate n 0)
 have l2:=XG U (GU (n+m+1)) (List.replicate m 0)
 rw[R9]at l1 l2
 have a1 : ∀ j,j<n+m+1->(S.outs (List.replicate n 0) (GU (n+m+1)))[j]? = some (hQ S j):=fun j hj=>mM (by rw[hS.la,hS.lb]) hj
 have a2 : ∀ j,j<n+m+1->(U.outs (List.replicate m 0) (GU (n+m+1)))[j]? = some (hQ U j):=fun j hj=>mM (by rw[hU.la,hU.lb]) hj
 rw[show ((n+m+1:Nat):Int)=(S.a.length:Int)+(U.a.length:Int)+1 by omega]at hI1 hI2
 clear hK1 hK2 hS hU
 generalize S.outs (List.replicate n 0) (GU (n+m+1))=P at *
 generalize U.outs (List.replicate m 0) (GU (n+m+1))=R at *
 suffices h : ∃ v,Ev L 282 [.agg (eS S),.agg (eS U)] v /\ ∃ b:Bool,v = .tup [.bool b,.int .i64 0]/\(b=true ↔ ∀ K,K<n+m+1->hQ S K=hQ U K) by
  obtain ⟨v,h1,b,rfl,h2⟩:=h
  exact ⟨b,h1,h2⟩
 refine Ev.xE N.L2 rfl rfl ?_
 (repeat' (first|(refine AG (fun hc => ?_) (fun hc => ?_)<;>first|(exfalso;omega)|(conv=>whnf))|(refine A0 ?_ ?_;omega;conv=>whnf)|(refine AW ?_;conv=>whnf)|(refine AE ?_;conv=>whnf)|(refine AC (hS1) ?_;conv=>whnf)|(refine AC (hS2) ?_;conv=>whnf)|(refine AC (hI1) ?_;conv=>whnf)|(refine AC (hI2) ?_;conv=>whnf)))
 refine CE (fun i=>n+m+1-i) (fun (i:Nat)=>i<=n+m+1 /\ ∀ K,K<i->hQ S K=hQ U K) (fun i=>[(46,.int .i64 i)]) (fun _=>[]) [] [] 0 (by (conv=>whnf);exact ⟨rfl,rfl,rfl⟩) ⟨by omega,fun K h=>absurd h (by omega)⟩ ?_
 intro i ⟨p1,p2⟩ ih
 by_cases hi:i<n+m+1
 ·have x1:=a1 i hi
  have x2:=a2 i hi
  have x1':P[(i:Int).toNat]? = some (hQ S i):=x1
  have x2':R[(i:Int).toNat]? = some (hQ U i):=x2
  have hC3:=ZW N.toStGLib (u1.at x1) (u2.at x2) (by omega) (by omega)
  have hsg:=U2 (x:=hQ S i) (y:=hQ U i)
  have hp2:hQ S i=hQ U i -> ∀ K,K<i+1->hQ S K=hQ U K:=fun e K hK=>by
   by_cases h:K=i
   ·rw[h];exact e
   ·exact p2 K (by omega)
  have hno:hQ S i≠hQ U i -> ¬ ∀ K,K<n+m+1->hQ S K=hQ U K:=fun e h=>e (h i hi)
  generalize hQ S i=x at *
  generalize hQ U i=y at *
  generalize sgn (x-y).num=sg at *
  by_cases hxy:x=y
  ·have h0:sg=0:=hsg.2 hxy
   (repeat' (first|(refine AG (fun hc => ?_) (fun hc => ?_)<;>first|(exfalso;omega)|(conv=>whnf))|(refine A0 ?_ ?_;omega;conv=>whnf)|(refine BL (by assumption) ?_ rfl ?_;omega;conv=>whnf)|(refine AE ?_;conv=>whnf)|(refine AC (hC3) ?_;conv=>whnf)))
   exact A4 [] (by (conv=>whnf);exact ⟨rfl,rfl,rfl⟩) (ih (i+1) (by omega) ⟨by omega,hp2 hxy⟩)
  ·have hne:sg≠0:=fun h=>hxy (hsg.1 h)
   (repeat' (first|(refine AG (fun hc => ?_) (fun hc => ?_)<;>first|(exfalso;omega)|(conv=>whnf))|(refine BL (by assumption) ?_ rfl ?_;omega;conv=>whnf)|(refine AE ?_;conv=>whnf)|(refine AC (hC3) ?_;conv=>whnf)))
   exact ⟨_,AY rfl (by simp only[A9,CY,true_and,and_true]),false,rfl,by simp only[Bool.false_eq_true,false_iff];exact hno hxy⟩
 ·have ei:i=n+m+1:=by omega
  clear ih
  rw[ei]at p2
  (repeat' (first|(refine AG (fun hc => ?_) (fun hc => ?_)<;>first|(exfalso;omega)|(conv=>whnf))|(refine AE ?_;conv=>whnf)))
  exact ⟨_,AY rfl (by simp only[A9,CY,true_and,and_true]),true,rfl,by simp only[true_iff];exact p2⟩
theorem kB (N:SysGLib L) (m:List (List Rat)) (b:List Rat) (q1 q2 q3:Bool) (n k s:Nat) (hs:Sq n m) (hb:b.length=n) (hm:Ms k m) (hbb:Bs s b) (hn:n<=4) (hK:4*(k+s+1)+k+s<2199023255552):Ev L 138 [.sl q1 (GF q3 m),.sl q2 (b.map eQ)] (.sl false ((BZ m b).map eQ)):=by
 have hml:=hs.l
 have hvl:=QS m b
 refine Ev.x N.LV rfl rfl ?_
 (repeat' (refine AE ?_;conv=>whnf))
 refine CE (fun j=>m.length-j) (fun (j:Nat)=>j<=m.length) (fun j=>[(6,.int .i64 j),(5,.row 138005 0 3 0 j)]) (fun j=>[(138005,138005,.rw 3 (((BZ m b).take j).map eQ))]) [] [] 0 (by (conv=>whnf);exact ⟨rfl,rfl,rfl⟩) (by omega) ?_
 intro j r1 jh
 have hlen:((BZ m b).take j).length=j:=by rw[List.length_take];omega
 by_cases hj:j<m.length
 ·obtain ⟨r,hr⟩ : ∃ r,m[j]? = some r:=⟨_,zE hj⟩
  have hr':m[(j:Int).toNat]? = some r:=hr
  have hrl:=hs.at hr
  have hP2:=fun q q'=>AaR N r b q q' k s (by omega) (hm.at hr) hbb (by rw[hrl];have:=Nat.mul_le_mul_right (k+s+1) hn;omega) (by omega)
  have hy:(BZ m b)[j]? = some (BC r b):=by rw[BZ,List.getElem?_map,hr];rfl
  have hlen1:((BZ m b).take (j+1)).length=j+1:=by rw[List.length_take];omega
  (repeat' (first|(refine AG (fun hc => ?_) (fun hc => ?_)<;>first|(exfalso;omega)|(conv=>whnf))|(refine AW ?_;conv=>whnf)|(refine BL (by assumption) ?_ rfl ?_;omega;conv=>whnf)|(refine EK ?_;conv=>whnf)|(refine AE ?_;conv=>whnf)|(refine AC (hP2 _ _) ?_;conv=>whnf)))
  refine E2 (enc:=eQ) (BC r b) rfl hlen.symm rfl (by omega) (by omega) ?_
  (conv=>whnf)
  (repeat' (refine A0 ?_ ?_;omega;conv=>whnf))
  rw[<-OX hy,hlen1]
  exact A4 [(138005,138021)] (by (conv=>whnf);exact ⟨rfl,rfl,rfl⟩) (jh (j+1) (by omega) (by omega))
 obtain rfl:j=m.length:=by omega
 clear jh
 rw[List.take_of_length_le (by omega)]
 (repeat' (first|(refine AG (fun hc => ?_) (fun hc => ?_)<;>first|(exfalso;omega)|(conv=>whnf))|(refine AW ?_;conv=>whnf)|(refine AE ?_;conv=>whnf)))
 refine DE (enc:=eQ) (fun _=>rfl) rfl hvl.symm ?_
 (conv=>whnf)
 exact AY rfl (by simp only[A9,true_and];exact FR _)
end Go.Eng

namespace Go.Eng
def PM (S:B4) (n:Nat):Nat->List Rat
 | 0=>S.c
 | d+1=>EP (PM S n d) S.a n
theorem Af9 {S:B4} {n:Nat} (h:S.c.length=n) : ∀ d,(PM S n d).length=n
 | 0=>h
 | _+1=>QR _ _ _
theorem pT {S:B4} {n:Nat} (h : ∀ r∈S.a,r.length=n) : ∀ d j,BC (PM S n d) (wQ S j)=BC S.c (wQ S (j+d))
 | 0,_=>rfl
 | d+1,j=>by
  rw[PM,QE S.a (PM S n d) h]
  show BC (PM S n d) (wQ S (j+1))=_
  rw[pT h d (j+1),show j+1+d=j+(d+1) by omega]
theorem AgR {S:B4} {n k:Nat} (h:S.Ok n k) (hn:n<=4) (K:Nat) :
  conv (fun a=>(CJ S n).getD a 0) (hQ S) K (min (CJ S n).length (K+1))=(DM S n).getD K 0:=by
 by_cases hK:K<=n+2
 ·exact AgQ h hn K hK
 have hs:Sq n S.a:=⟨h.la,h.lr⟩
 have hbl:=RO S.a n n
 have hal:=RM S n n
 have hle:(B5 ((CX S.a n n).map (· * S.d))).length<=(ES S n n).length:=by
  rw[NK]
  have:=JC ((CX S.a n n).map (· * S.d)) ((CX S.a n n).map (· * S.d)).length
  rw[List.length_map]at this ⊢
  omega
 have hR:(DM S n).getD K 0=(ES S n n).getD K 0+(CX S.a n n).getD K 0*S.d:=by
  rw[DM,NJ,fO _ _ hle,NJ,qO]
 have hL:conv (fun a=>(CJ S n).getD a 0) (hQ S) K (min (CJ S n).length (K+1))=conv (fun a=>(CX S.a n n).getD a 0) (hQ S) K (K+1):=by
  have e:conv (fun a=>(CJ S n).getD a 0) (hQ S) K (min (CJ S n).length (K+1))=conv (fun a=>(CJ S n).getD a 0) (hQ S) K (K+1):=by
   by_cases h1:(CJ S n).length<=K+1
   ·rw[Nat.min_eq_left h1]
    have:=RT (A:=fun a=>(CJ S n).getD a 0) (h:=hQ S) (K:=K) (m:=(CJ S n).length) (fun a ha=>F3 ha) (K+1-(CJ S n).length)
    rw[show (CJ S n).length+(K+1-(CJ S n).length)=K+1 by omega]at this
    exact this.symm
   ·rw[Nat.min_eq_right (by omega)]
  rw[e]
  exact OG (K+1) (fun a _=>NJ _ a) fun _ _=>rfl
 have hCH:BZ (BX S.a n n) S.b=List.replicate n 0:=by
  rw[gG hs hn,BZ,List.map_replicate,QF]
 have hbz : ∀ a,n+1<=a->(CX S.a n n).getD a 0=0:=fun a ha=>F3 (by omega)
 rw[hL,hR,hbz K (by omega),F3 (l:=ES S n n) (by omega),Rat.zero_mul,Rat.zero_add]
 obtain ⟨d,rfl⟩ : ∃ d,K=n+1+d:=⟨K-(n+1),by omega⟩
 have e0:=RT (A:=fun a=>(CX S.a n n).getD a 0) (h:=hQ S) (K:=n+1+d) (m:=n+1) hbz (d+1)
 rw[show n+1+(d+1)=n+1+d+1 by omega]at e0
 rw[e0]
 have e1:conv (fun a=>(CX S.a n n).getD a 0) (hQ S) (n+1+d) (n+1)=conv (NS S.a n) (fun j=>BC (PM S n d) (wQ S j)) n (n+1):=by
  refine OG (n+1) (fun a ha=>V3 _ _ _ (by omega)) fun a ha => ?_
  rw[pT h.lr,show n+1+d-a=(n-a+d)+1 by omega];rfl
 have e3:=UB hs h.lb n (PM S n d) (Af9 h.lc d)
 rw[hCH,TS]at e3
 rw[e1]
 exact e3.symm
end Go.Eng



namespace Go.Eng
open F
attribute [local irreducible] AA AF AR AD B0 AU AX A8 A6 BN AP BK BV CN BI AZ BG BQ AB A7 AJ pw BH BF B9 B8 CI B7 CB BM B3
set_option maxHeartbeats 8000000
set_option maxRecDepth 8000
variable {L:Lib}
theorem VC (S:B4) (n:Nat):(CJ S n).length<=n+1/\(DM S n).length<=n+1:=by
 have h1:=NK (CX S.a n n)
 have h2:=JC (CX S.a n n) (CX S.a n n).length
 have h3:=RO S.a n n
 have h4:=NK (G3 (ES S n n) (B5 ((CX S.a n n).map (· * S.d))))
 have h5:=JC (G3 (ES S n n) (B5 ((CX S.a n n).map (· * S.d)))) (G3 (ES S n n) (B5 ((CX S.a n n).map (· * S.d)))).length
 have h6:=V1 (ES S n n) (B5 ((CX S.a n n).map (· * S.d)))
 have h7:=RM S n n
 unfold CJ DM
 omega
end Go.Eng

namespace Go.Eng
set_option maxHeartbeats 4000000
def PO (T U:List (List Rat)) (S:B4) (n:Nat):B4:=⟨CD (CD T S.a n) U n,BZ T S.b,BZ (II U) S.c,S.d⟩
theorem AgY {U:List (List Rat)} {n:Nat} (hU:Sq n U) (c:List Rat):BZ (II U) c=EP c U n:=by
 rw[BZ,II,List.map_map,hU.l,EP]
 exact List.map_congr_left fun j _=>MM _ _
theorem qK {T U:List (List Rat)} {S:B4} {n k:Nat} (hS:S.Ok n k) (hU:Sq n U) (hUT : ∀ v:List Rat,v.length=n->BZ U (BZ T v)=v) : ∀ j,(wQ S j).length=n/\wQ (PO T U S n) j=BZ T (wQ S j)
 | 0=>⟨hS.lb,rfl⟩
 | j+1=>by
  obtain ⟨h1,h2⟩:=qK hS hU hUT j
  refine ⟨by rw[wQ,QS];exact hS.la,?_⟩
  show BZ (CD (CD T S.a n) U n) (wQ (PO T U S n) j)=BZ T (BZ S.a (wQ S j))
  rw[h2,bY _ _ _ hU.r,hUT _ h1,bY _ _ _ hS.lr]
theorem Ags {T U:List (List Rat)} {S:B4} {n k:Nat} (hS:S.Ok n k) (hU:Sq n U) (hUT : ∀ v:List Rat,v.length=n->BZ U (BZ T v)=v) : ∀ K,hQ (PO T U S n) K=hQ S K
 | 0=>rfl
 | K+1=>by
  obtain ⟨h1,h2⟩:=qK hS hU hUT K
  show BC (BZ (II U) S.c) (wQ (PO T U S n) K)=BC S.c (wQ S K)
  rw[h2,AgY hU,QE U S.c hU.r,hUT _ h1]
theorem AcV {T U:List (List Rat)} {n:Nat} (hn:n<=2) (hT:Sq n T) (hU:Sq n U) (hb:Ms 4 T) (hUT : ∀ v:List Rat,v.length=n->BZ U (BZ T v)=v):Ms 21 U:=by
 obtain rfl|rfl|rfl:n=0\/n=1\/n=2:=by omega
 ·have:=hU.l
  rw[List.length_eq_zero_iff]at this
  subst this
  intro r hr;cases hr
 ·obtain ⟨tl,tr⟩:=hT
  obtain ⟨ul,ur⟩:=hU
  match T,tl with
  | [t],_ =>
   have h1:=tr t (by simp)
   match t,h1 with
   | [x],_ =>
    match U,ul with
    | [u],_ =>
     have h2:=ur u (by simp)
     match u,h2 with
     | [y],_ =>
      have h:=hUT [1] rfl
      simp only[BZ,List.map_cons,List.map_nil,BC,List.cons.injEq,and_true]at h
      have hx:Bt 4 x:=hb [x] (by simp) x (by simp)
      have h0:x≠0:=fun e=>by rw[e]at h;grind
      have e:y=x⁻¹:=by grind
      intro r hr
      obtain rfl:=List.mem_singleton.1 hr
      intro z hz
      obtain rfl:=List.mem_singleton.1 hz
      rw[e]
      exact hx.invL.le (by omega)
 ·obtain ⟨tl,tr⟩:=hT
  obtain ⟨ul,ur⟩:=hU
  match T,tl with
  | [t,s],_ =>
   have h1:=tr t (by simp)
   have h2:=tr s (by simp)
   match t,s,h1,h2 with
   | [a,b],[c,d],_,_ =>
    match U,ul with
    | [u,v],_ =>
     have h3:=ur u (by simp)
     have h4:=ur v (by simp)
     match u,v,h3,h4 with
     | [p,q],[r,s],_,_ =>
      have g1:=hUT [1,0] rfl
      have g2:=hUT [0,1] rfl
      simp only[BZ,List.map_cons,List.map_nil,BC,List.cons.injEq,and_true]at g1 g2
      obtain ⟨e1,e2⟩:=g1
      obtain ⟨e3,e4⟩:=g2
      have ha:Bt 4 a:=hb [a,b] (by simp) a (by simp)
      have hbb:Bt 4 b:=hb [a,b] (by simp) b (by simp)
      have hcc:Bt 4 c:=hb [c,d] (by simp) c (by simp)
      have hd:Bt 4 d:=hb [c,d] (by simp) d (by simp)
      have f1:p*a+q*c=1:=by grind
      have f2:r*a+s*c=0:=by grind
      have f3:p*b+q*d=0:=by grind
      have f4:r*b+s*d=1:=by grind
      clear e1 e2 e3 e4 hUT
      have k1:p*(a*d-b*c)=d:=by grind
      have k2:q*(a*d-b*c) = -b:=by grind
      have k3:r*(a*d-b*c) = -c:=by grind
      have k4:s*(a*d-b*c)=a:=by grind
      have hD:Bt 17 (a*d-b*c):=(ha.mul hd).subL (hbb.mul hcc)
      have h0:a*d-b*c≠0:=fun e=>by
       rw[e,Rat.mul_zero]at k1 k2 k3 k4
       have:a=0:=k4.symm
       have:c=0:=by grind
       grind
      have key : ∀ x y:Rat,x*(a*d-b*c)=y->x=y/(a*d-b*c):=fun x y h=>by
       rw[<-h,Rat.div_def,Rat.mul_assoc,Rat.mul_inv_cancel _ h0,Rat.mul_one]
      intro w hw
      simp only[List.mem_cons,List.not_mem_nil,or_false]at hw
      rcases hw with rfl|rfl
      ·intro z hz
       simp only[List.mem_cons,List.not_mem_nil,or_false]at hz
       rcases hz with rfl|rfl
       ·rw[key _ _ k1];exact hd.divL hD
       ·rw[key _ _ k2];exact (Bt.negL hbb).divL hD
      ·intro z hz
       simp only[List.mem_cons,List.not_mem_nil,or_false]at hz
       rcases hz with rfl|rfl
       ·rw[key _ _ k3];exact (Bt.negL hcc).divL hD
       ·rw[key _ _ k4];exact ha.divL hD
theorem rY {U:List (List Rat)} {k:Nat} (h:Ms k U):Ms k (II U):=fun r hr=>by
 obtain ⟨i,_,rfl⟩:=List.mem_map.1 hr
 exact h.col i
theorem sA {U:List (List Rat)} {n:Nat} (h:Sq n U):Sq n (II U):=⟨by rw[dW,h.l],fun r hr=>by
 obtain ⟨i,_,rfl⟩:=List.mem_map.1 hr
 rw[Y8,h.l]⟩
theorem oE {m:List (List Rat)} {b:List Rat} {n k l:Nat} (hs:Sq n m) (hm:Ms k m) (hb:Bs l b) (hn:n<=2):Bs (2*(k+l+1)) (BZ m b):=fun x hx=>by
 obtain ⟨r,hr,rfl⟩:=List.mem_map.1 hx
 refine ((hm r hr).dot hb).le ?_
 rw[hs.r r hr]
 exact Nat.mul_le_mul_right _ hn
theorem Agt {T U:List (List Rat)} {S:B4} {n:Nat} (hS:S.Ok n 4) (hT:Sq n T) (hU:Sq n U) (hb:Ms 4 T) (hUb:Ms 21 U) (hn:n<=2):(PO T U S n).Ok n 80/\Ms 18 (CD T S.a n):=by
 have h1:Ms 18 (CD T S.a n):=(Ms.mul hb hT hS.ba).le (by omega)
 have s1:Sq n (CD T S.a n):=Sq.mul hT.l _
 have s2:Sq n (PO T U S n).a:=Sq.mul s1.l _
 refine ⟨⟨s2.l,s2.r,by show (BZ T S.b).length=n;rw[QS,hT.l],by show (BZ (II U) S.c).length=n;rw[QS,dW,hU.l],?_,?_,?_,hS.bd.le (by omega)⟩,h1⟩
 ·exact (Ms.mul h1 s1 hUb).le (show n*(18+21+1)<=80 by omega)
 ·exact (oE hT hb hS.bb hn).le (by omega)
 ·exact (oE (sA hU) (rY hUb) hS.bc hn).le (by omega)
theorem rS {S:B4} {n:Nat} (h:S.Ok n 80) (hn:n<=2):Bs 100000 (CJ S n)/\Bs 100000 (DM S n):=by
 have hsq:Sq n S.a:=⟨h.la,h.lr⟩
 have hfl : ∀ j,j<n->FS j<=1700:=fun j hj=>by
  obtain rfl|rfl:j=0\/j=1:=by omega
  ·exact Nat.zero_le _
  ·exact Nat.le_refl _
 have hbeB:Bs 30000 (CX S.a n n):=by
  intro x hx
  simp only[CX,List.mem_cons,List.mem_map,List.mem_range]at hx
  rcases hx with rfl|⟨j,hj,rfl⟩
  ·exact Bt.one _
  ·have hKj:=hfl j hj
   exact (Ms.fl hsq h.ba (by omega) j (by omega)).2.2.le (by omega)
 have habB:Bs 30000 (ES S n n):=by
  intro x hx
  simp only[ES,List.mem_cons,List.mem_map,List.mem_range]at hx
  rcases hx with rfl|⟨j,hj,rfl⟩
  ·exact Bt.zero _
  ·have hKj:=hfl j hj
   have himb:Bs (4*(FS j+81)) (BZ (BX S.a n j) S.b):=by
    intro x hx
    obtain ⟨r,hr,rfl⟩:=List.mem_map.1 hx
    refine (((Ms.fl hsq h.ba (by omega) j (by omega)).1 r hr).dot h.bb).le ?_
    rw[(Sq.fl h.la j).r r hr]
    exact Nat.mul_le_mul (by omega) (by omega)
   refine (h.bc.dot himb).le ?_
   rw[h.lc]
   have:=Nat.mul_le_mul_right (80+4*(FS j+81)+1) hn
   generalize hX:80+4*(FS j+81)+1=X at this ⊢
   omega
 have hmB:Bs 30080 ((CX S.a n n).map (· * S.d)):=by
  intro y hy
  obtain ⟨x,hx,rfl⟩:=List.mem_map.1 hy
  exact ((hbeB x hx).mul h.bd).le (by omega)
 refine ⟨(hbeB.le (by omega)).trim,Bs.trim ?_⟩
 intro z hz
 obtain ⟨i,hi⟩:=List.getElem?_of_mem hz
 have h1:=(zS hi).1
 rw[V1]at h1
 rw[V0 h1]at hi
 obtain rfl:=Option.some.inj hi
 exact ((MP habB i).add (MP hmB.trim i)).le (by omega)
theorem rP (S:B4) (n:Nat):B5 (CJ S n)=CJ S n:=SU _
theorem rR (S:B4) (n:Nat):B5 (DM S n)=DM S n:=SU _
theorem X5 (S:B4) (n:Nat):(CJ S n).getD 0 0=1:=by
 rw[CJ,NJ];rfl
theorem rO (S:B4) (n:Nat):(CJ S n)[0]? = some 1:=by
 have h:=X5 S n
 rw[List.getD_eq_getElem?_getD]at h
 cases h1:(CJ S n)[0]? with
 | none=>rw[h1]at h;exact absurd h (by decide)
 | some x=>rw[h1]at h;rw[show x=1 from h]
theorem yB {A:List Rat} {h:Nat->Rat} {K:Nat} (hl:A.length<=3):conv (fun a=>A.getD a 0) h K (min A.length (K+1))=conv (fun a=>A.getD a 0) h K (min 3 (K+1)):=by
 by_cases h1:A.length<=K+1
 ·rw[Nat.min_eq_left h1]
  have:=RT (A:=fun a=>A.getD a 0) (h:=h) (K:=K) (m:=A.length) (fun a ha=>F3 ha) (min 3 (K+1)-A.length)
  rw[show A.length+(min 3 (K+1)-A.length)=min 3 (K+1) by omega]at this
  exact this.symm
 ·rw[Nat.min_eq_right (by omega),Nat.min_eq_right (by omega)]
theorem rT {S:B4} {n k:Nat} (h:S.Ok n k) (hn:n<=2) :
  (DM S n).getD 0 0=hQ S 0/\(DM S n).getD 1 0=hQ S 1+(CJ S n).getD 1 0*hQ S 0/\(DM S n).getD 2 0=hQ S 2+(CJ S n).getD 1 0*hQ S 1+(CJ S n).getD 2 0*hQ S 0/\0=hQ S 3+(CJ S n).getD 1 0*hQ S 2+(CJ S n).getD 2 0*hQ S 1/\0=hQ S 4+(CJ S n).getD 1 0*hQ S 3+(CJ S n).getD 2 0*hQ S 2:=by
 obtain ⟨lA,lB⟩:=VC S n
 have h0:=X5 S n
 have key : ∀ K,conv (fun a=>(CJ S n).getD a 0) (hQ S) K (min 3 (K+1))=(DM S n).getD K 0:=fun K=>by
  rw[<-yB (by omega)]
  exact AgR h (by omega) K
 have e3:(DM S n).getD 3 0=0:=F3 (by omega)
 have e4:(DM S n).getD 4 0=0:=F3 (by omega)
 have k0:conv (fun a=>(CJ S n).getD a 0) (hQ S) 0 1=(DM S n).getD 0 0:=key 0
 have k1:conv (fun a=>(CJ S n).getD a 0) (hQ S) 1 2=(DM S n).getD 1 0:=key 1
 have k2:conv (fun a=>(CJ S n).getD a 0) (hQ S) 2 3=(DM S n).getD 2 0:=key 2
 have k3:conv (fun a=>(CJ S n).getD a 0) (hQ S) 3 3=(DM S n).getD 3 0:=key 3
 have k4:conv (fun a=>(CJ S n).getD a 0) (hQ S) 4 3=(DM S n).getD 4 0:=key 4
 rw[e3]at k3
 rw[e4]at k4
 simp only[conv,h0,Nat.sub_self,Nat.sub_zero,show 2-1=1 by omega,show 3-1=2 by omega,show 3-2=1 by omega,show 4-1=3 by omega,show 4-2=2 by omega]at k0 k1 k2 k3 k4
 clear key e3 e4 lA lB h0
 generalize hQ S=f at *
 generalize (CJ S n).getD 1 0=a1 at *
 generalize (CJ S n).getD 2 0=a2 at *
 refine ⟨by grind,by grind,by grind,by grind,by grind⟩
theorem AgP {S U:B4} {n m k l:Nat} (hS:S.Ok n k) (hU:U.Ok m l) (hn:n<=2) (hm:m<=2):(∀ K,K<n+m+1->hQ S K=hQ U K) ↔ ∀ K,EE (DM S n) (CJ U m) K=EE (DM U m) (CJ S n) K:=by
 obtain ⟨lA,lB⟩:=VC S n
 obtain ⟨lC,lD⟩:=VC U m
 obtain ⟨e0,e1,e2,e3,e4⟩:=rT hS hn
 obtain ⟨f0,f1,f2,f3,f4⟩:=rT hU hm
 have z : ∀ (l:List Rat) (i:Nat),l.length<=i->l.getD i 0=0:=fun l i h=>F3 h
 have hc2:=AaJ (n:=n) (m:=m) hn hm e0 e1 e2 e3 e4 f0 f1 f2 f3 f4 (fun h=>⟨z _ _ (by omega),z _ _ (by omega)⟩) (fun h=>⟨z _ _ (by omega),z _ _ (by omega)⟩) (fun h=>⟨z _ _ (by omega),z _ _ (by omega)⟩) (fun h=>⟨z _ _ (by omega),z _ _ (by omega)⟩)
 have hL:(∀ K,K<n+m+1->hQ S K=hQ U K)↔(hQ S 0=hQ U 0/\(1<n+m+1->hQ S 1=hQ U 1)/\(2<n+m+1->hQ S 2=hQ U 2)/\(3<n+m+1->hQ S 3=hQ U 3)/\(4<n+m+1->hQ S 4=hQ U 4)):=by
  constructor
  ·intro h
   exact ⟨h 0 (by omega),h 1,h 2,h 3,h 4⟩
  ·intro ⟨g0,g1,g2,g3,g4⟩ K hK
   obtain rfl|rfl|rfl|rfl|rfl:K=0\/K=1\/K=2\/K=3\/K=4:=by omega
   ·exact g0
   ·exact g1 hK
   ·exact g2 hK
   ·exact g3 hK
   ·exact g4 hK
 rw[hL,hc2]
 have a0:=X5 S n
 have c0:=X5 U m
 have hz : ∀ (p q:List Rat) (K:Nat),p.length<=3->q.length<=3->5<=K->EE p q K=0:=fun p q K hp hq hK=>by
  rw[oC hp,if_pos (by omega),if_pos (by omega),z q K (by omega),z q (K-1) (by omega),z q (K-2) (by omega)]
  grind
 have h5:(∀ K,EE (DM S n) (CJ U m) K=EE (DM U m) (CJ S n) K)↔(∀ K,K<5->EE (DM S n) (CJ U m) K=EE (DM U m) (CJ S n) K):=by
  constructor
  ·intro h K _;exact h K
  ·intro h K
   by_cases hK:K<5
   ·exact h K hK
   ·rw[hz _ _ K (by omega) (by omega) (by omega),hz _ _ K (by omega) (by omega) (by omega)]
 rw[h5]
 have m0 : ∀ (p q:List Rat),p.length<=3->q.length<=3->q.getD 0 0=1->EE p q 0=p.getD 0 0/\EE p q 1=p.getD 0 0*q.getD 1 0+p.getD 1 0/\EE p q 2=p.getD 0 0*q.getD 2 0+p.getD 1 0*q.getD 1 0+p.getD 2 0/\EE p q 3=p.getD 1 0*q.getD 2 0+p.getD 2 0*q.getD 1 0/\EE p q 4=p.getD 2 0*q.getD 2 0:=fun p q hp hq h1=>by
  simp only[oC hp,show ¬ (1<=0) by omega,show ¬ (2<=0) by omega,show ¬ (2<=1) by omega,show (1<=1) by omega,show (1<=2) by omega,show (2<=2) by omega,show (1<=3) by omega,show (2<=3) by omega,show (1<=4) by omega,show (2<=4) by omega,if_true,if_false,show 1-1=0 by omega,show 2-1=1 by omega,show 2-2=0 by omega,show 3-1=2 by omega,show 3-2=1 by omega,show 4-1=3 by omega,show 4-2=2 by omega,h1,z q 3 (by omega),z q 4 (by omega)]
  refine ⟨by grind,by grind,by grind,by grind,by grind⟩
 obtain ⟨p0,p1,p2,p3,p4⟩:=m0 (DM S n) (CJ U m) (by omega) (by omega) c0
 obtain ⟨r0,r1,r2,r3,r4⟩:=m0 (DM U m) (CJ S n) (by omega) (by omega) a0
 constructor
 ·intro ⟨g0,g1,g2,g3,g4⟩ K hK
  obtain rfl|rfl|rfl|rfl|rfl:K=0\/K=1\/K=2\/K=3\/K=4:=by omega
  ·rw[p0,r0,g0]
  ·rw[p1,r1,g1]
  ·rw[p2,r2,g2]
  ·rw[p3,r3,g3]
  ·rw[p4,r4,g4]
 ·intro h
  have q0:=h 0 (by omega)
  have q1:=h 1 (by omega)
  have q2:=h 2 (by omega)
  have q3:=h 3 (by omega)
  have q4:=h 4 (by omega)
  rw[p0,r0]at q0
  rw[p1,r1]at q1
  rw[p2,r2]at q2
  rw[p3,r3]at q3
  rw[p4,r4]at q4
  exact ⟨q0,q1,q2,q3,q4⟩
end Go.Eng

namespace Go.Eng
open F
attribute [local irreducible] AA AF AR AD B0 AU AX A8 A6 BN AP BK BV CN BI AZ BG BQ AB A7 AJ pw BH BF B9 B8 CI B7 CB BM B3
set_option maxHeartbeats 16000000
set_option maxRecDepth 8000
variable {L:Lib}
theorem Af3 {n:Nat} (hn:n<=2):10*FW 4 n<=100000000000:=by
 obtain rfl|rfl|rfl:n=0\/n=1\/n=2:=by omega
 all_goals decide
theorem AaX (N:EquGLib L) (S:B4) (T:List (List Rat)) (n:Nat) (hS:S.Ok n 4) (hT:Sq n T) (hTb:Ms 4 T) (hn:n<=2) :
  ∃ v,Ev L 285 [.agg (eS S),.sl false (eM T)] v/\(v = .tup [.agg [.sl false [],.sl false [],.sl false [],.bool false,.sl false [],.sl false []],.int .i64 11] \/ ∃ W:B4,v = .tup [.agg (eS W),.int .i64 0]/\W.Ok n 80 /\ ∀ K,hQ W K=hQ S K):=by
 have hSm:=AbF N S n 4 hS (by omega)
 have hla:=hS.la
 have htl:=hT.l
 have hTr:=WS N.toRefGLib hS.bd (by omega)
 have hT0 : ∀ i,i<n -> ∃ r,T[i]? = some r/\r.length=n:=fun i hi=>by
  obtain ⟨r,hr⟩ : ∃ r,T[i]? = some r:=⟨_,zE (by omega)⟩
  exact ⟨r,hr,hT.r r (zM hr)⟩
 refine Ev.xE N.LW rfl rfl ?_
 (repeat' (first|(refine AG (fun hc => ?_) (fun hc => ?_)<;>first|(exfalso;omega)|(conv=>whnf))|(refine AW ?_;conv=>whnf)|(refine AE ?_;conv=>whnf)|(refine AC (hSm) ?_;conv=>whnf)))
 refine CE (fun i=>n-i) (fun (i:Nat)=>i<=n) (fun i=>[(6,.int .i64 i)]) (fun _=>[]) [] [] 0 (by (conv=>whnf);exact ⟨rfl,rfl,rfl⟩) (by omega) ?_
 intro i i1 ih
 by_cases hi:i<n
 ·obtain ⟨r,hr,hrl⟩:=hT0 i hi
  have hr':T[(i:Int).toNat]? = some r:=hr
  (repeat' (first|(refine AG (fun hc => ?_) (fun hc => ?_)<;>first|(exfalso;omega)|(conv=>whnf))|(refine A0 ?_ ?_;omega;conv=>whnf)|(refine AW ?_;conv=>whnf)|(refine BL (by assumption) ?_ rfl ?_;omega;conv=>whnf)|(refine AE ?_;conv=>whnf)))
  exact A4 [] (by (conv=>whnf);exact ⟨rfl,rfl,rfl⟩) (ih (i+1) (by omega) (by omega))
 have ei:i=n:=by omega
 clear ih i1 hi
 by_cases h0:n=0
 ·(repeat' (first|(refine AG (fun hc => ?_) (fun hc => ?_)<;>first|(exfalso;omega)|(conv=>whnf))|(refine AW ?_;conv=>whnf)|(refine AE ?_;conv=>whnf)|(refine AC (hTr) ?_;conv=>whnf)))
  have eS0:eS S=[.sl false [],.sl false [],.sl false []]++eQ S.d:=by
   have e1:S.a=[]:=List.length_eq_zero_iff.1 (by omega)
   have e2:S.b=[]:=List.length_eq_zero_iff.1 (by rw[hS.lb];omega)
   have e3:S.c=[]:=List.length_eq_zero_iff.1 (by rw[hS.lc];omega)
   rw[eS,e1,e2,e3];rfl
  have hcl:=Y4 S 0
  refine ⟨.tup [.agg (eS S),.int .i64 0],?_,Or.inr ⟨S,rfl,hS.le (by omega),fun _=>rfl⟩⟩
  rw[eS0]at hcl ⊢
  exact AY rfl hcl
 ·obtain ⟨v,hI,hv0⟩:=AaS N.toInvGLib false false T n 4 hT (by omega) hTb (by omega) (Af3 hn)
  rcases hv0 with rfl|⟨U,rfl,hUl,hUw,hUT⟩
  ·(repeat' (first|(refine AG (fun hc => ?_) (fun hc => ?_)<;>first|(exfalso;omega)|(conv=>whnf))|(refine AW ?_;conv=>whnf)|(refine AE ?_;conv=>whnf)|(refine AC (hI) ?_;conv=>whnf)))
   exact ⟨.tup [.agg [.sl false [],.sl false [],.sl false [],.bool false,.sl false [],.sl false []],.int .i64 11],AY rfl (by simp [A9,CY,FG]),Or.inl rfl⟩
  ·have hUs:Sq n U:=⟨hUl,hUw⟩
   have hUb:=AcV hn hT hUs hTb hUT
   obtain ⟨hOk,hM1⟩:=Agt hS hT hUs hTb hUb hn
   have hh:=Ags hS hUs hUT
   have hT1:=fun q1 q2 q3 q4=>kW N.toR09GLib q1 q2 q3 q4 T S.a n n n 4 4 hT.l hT.r hS.la hS.lr (by omega) (by omega) (by omega) hTb hS.ba (by omega)
   have hT2:=fun q1 q2 q3 q4=>kW N.toR09GLib q1 q2 q3 q4 (CD T S.a n) U n n n 18 21 (Sq.mul hT.l S.a).l (Sq.mul hT.l S.a).r hUl hUw (by omega) (by omega) (by omega) hM1 hUb (by omega)
   have hB1:=kB N.toSysGLib T S.b false false false n 4 4 hT hS.lb hTb hS.bb (by omega) (by omega)
   have hTn:=AbI N.toStGLib false U n hUl hUw (by omega)
   have hC1:=kB N.toSysGLib (II U) S.c false false false n 21 4 (sA hUs) hS.lc (rY hUb) hS.bc (by omega) (by omega)
   (repeat' (first|(refine AG (fun hc => ?_) (fun hc => ?_)<;>first|(exfalso;omega)|(conv=>whnf))|(refine AW ?_;conv=>whnf)|(refine AE ?_;conv=>whnf)|(refine AC (hI) ?_;conv=>whnf)|(refine AC (hT1 _ _ _ _) ?_;conv=>whnf)|(refine AC (hT2 _ _ _ _) ?_;conv=>whnf)|(refine AC (hB1) ?_;conv=>whnf)|(refine AC (hTn) ?_;conv=>whnf)|(refine AC (hC1) ?_;conv=>whnf)|(refine AC (hTr) ?_;conv=>whnf)))
   refine ⟨.tup [.agg (eS (PO T U S n)),.int .i64 0],?_,Or.inr ⟨_,rfl,hOk,hh⟩⟩
   exact AY rfl (Y4 (PO T U S n) 0)
end Go.Eng

namespace Go.Eng
open F
attribute [local irreducible] AA AF AR AD B0 AU AX A8 A6 BN AP BK BV CN BI AZ BG BQ AB A7 AJ pw BH BF B9 B8 CI B7 CB BM B3
set_option maxHeartbeats 1000000
variable {L:Lib} (n:Nt)
end Go.Eng

namespace Go.Eng
open F
attribute [local irreducible] AA AF AR AD B0 AU AX A8 A6 BN AP BK BV CN BI AZ BG BQ AB A7 AJ pw BH BF B9 B8 CI B7 CB BM B3
set_option maxHeartbeats 1000000
variable {L:Lib}
end Go.Eng

namespace Go.Eng
open F
attribute [local irreducible] AA AF AR AD B0 AU AX A8 A6 BN AP BK BV CN BI AZ BG BQ AB A7 AJ pw BH BF B9 B8 CI B7 CB BM B3
set_option maxHeartbeats 1000000
variable {L:Lib}
end Go.Eng

namespace Go.Eng
open F
attribute [local irreducible] AA AF AR AD B0 AU AX A8 A6 BN AP BK BV CN BI AZ BG BQ AB A7 AJ pw BH BF B9 B8 CI B7 CB BM B3
set_option maxHeartbeats 1000000
variable {L:Lib}
end Go.Eng

namespace Go.Eng
open F
attribute [local irreducible] AA AF AR AD B0 AU AX A8 A6 BN AP BK BV CN BI AZ BG BQ AB A7 AJ pw BH BF B9 B8 CI B7 CB BM B3
set_option maxHeartbeats 1000000
variable {L:Lib}
end Go.Eng

namespace Go.Eng
open F
attribute [local irreducible] AA AF AR AD B0 AU AX A8 A6 BN AP BK BV CN BI AZ BG BQ AB A7 AJ pw BH BF B9 B8 CI B7 CB BM B3
set_option maxHeartbeats 4000000
variable {L:Lib}
end Go.Eng

namespace Go.Eng
open F
attribute [local irreducible] AA AF AR AD B0 AU AX A8 A6 BN AP BK BV CN BI AZ BG BQ AB A7 AJ pw BH BF B9 B8 CI B7 CB BM B3
set_option maxHeartbeats 8000000
variable {L:Lib}
end Go.Eng

namespace Go.Eng
open F
attribute [local irreducible] AA AF AR AD B0 AU AX A8 A6 BN AP BK BV CN BI AZ BG BQ AB A7 AJ pw BH BF B9 B8 CI B7 CB BM B3
set_option maxHeartbeats 8000000
variable {L:Lib}
theorem AaW (N:ModGLib L) (S:B4) (n k:Nat) (q:Bool) (h:S.Ok n k) (hn:n<=64) (hk:k<2199023255552) :
  Ev L 167 [.agg ([.sl false (S.a.map fun r=>[AV.sl false (r.map eQ)]),.sl false (S.b.map eQ),.sl false (S.c.map eQ)]++eQ S.d),.agg ([.sl q (S.a.map fun r=>[AV.sl q (r.map eQ)]),.sl q (S.b.map eQ),.sl q (S.c.map eQ)]++eQ S.d)] (.bool true):=by
 have hD:=kC N.toRefGLib h.bd h.bd hk hk
 rw[U2.2 rfl]at hD
 have hB:=ZT N.toRefGLib S.b S.b false q k h.bb h.bb hk (by have:=h.lb;omega)
 have hC:=ZT N.toRefGLib S.c S.c false q k h.bc h.bc hk (by have:=h.lc;omega)
 rw[decide_eq_true rfl]at hB hC
 have hla:=h.la
 refine Ev.x N.LT rfl rfl ?_
 (repeat' (first|(refine AG (fun hc => ?_) (fun hc => ?_)<;>first|(exfalso;omega)|(conv=>whnf))|(refine AW ?_;conv=>whnf)|(refine AE ?_;conv=>whnf)|(refine AC (hB) ?_;conv=>whnf)|(refine AC (hC) ?_;conv=>whnf)|(refine AC (hD) ?_;conv=>whnf)))
 refine CE (fun i=>S.a.length-i) (fun (i:Nat)=>i<=S.a.length) (fun i=>[(5,.int .i64 i)]) (fun _=>[]) [] [] 0 (by (conv=>whnf);exact ⟨rfl,rfl,rfl⟩) (by omega) ?_
 intro i p1 ih
 by_cases hi:i<S.a.length
 ·obtain ⟨r,hr⟩ : ∃ r,S.a[i]? = some r:=⟨_,zE hi⟩
  have hr':S.a[(i:Int).toNat]? = some r:=hr
  have hrb:=h.ba r (zM hr)
  have hrl:=h.lr r (zM hr)
  have hR:=ZT N.toRefGLib r r false q k hrb hrb hk (by omega)
  rw[decide_eq_true rfl]at hR
  (repeat' (first|(refine AG (fun hc => ?_) (fun hc => ?_)<;>first|(exfalso;omega)|(conv=>whnf))|(refine A0 ?_ ?_;omega;conv=>whnf)|(refine AW ?_;conv=>whnf)|(refine BL (by assumption) ?_ rfl ?_;omega;conv=>whnf)|(refine AE ?_;conv=>whnf)|(refine AC (hR) ?_;conv=>whnf)))
  exact A4 [] (by (conv=>whnf);exact ⟨rfl,rfl,rfl⟩) (ih (i+1) (by omega) (by omega))
 ·obtain rfl:i=S.a.length:=by omega
  clear ih
  (repeat' (first|(refine AG (fun hc => ?_) (fun hc => ?_)<;>first|(exfalso;omega)|(conv=>whnf))|(refine AW ?_;conv=>whnf)|(refine AE ?_;conv=>whnf)))
  exact IK rfl
theorem Bt.ng {k:Nat} {x:Rat} (h:Bt k x):Bt k (-x):=⟨by simpa using h.1,by simpa using h.2⟩
theorem yF {B A:List Rat} {n:Nat} (hB:Bs 4 B) (hA:Bs 4 A):(EC B A n).Ok n 80:=by
 have hs : ∀ i,Bt 80 (B.getD i 0-B.getD 0 0*A.getD i 0):=fun i=>by
  rw[Rat.sub_eq_add_neg]
  exact ((MP hB i).add ((MP hB 0).mul (MP hA i)).ng).le (by omega)
 have hu : ∀ j,Bs 80 (EM n j):=fun j x hx=>by
  simp only[EM,List.mem_map]at hx
  obtain ⟨i,_,rfl⟩:=hx
  split
  ·exact Bt.one _
  ·exact Bt.zero _
 refine ⟨hH B A n,yG,PV _ _,iA B A n,?_,hu 0,?_,(MP hB 0).le (by omega)⟩
 ·intro r hr
  simp only[EC,List.mem_map]at hr
  obtain ⟨i,_,rfl⟩:=hr
  split
  ·intro x hx
   obtain ⟨j,_,rfl⟩:=List.mem_map.1 hx
   exact (MP hA _).ng.le (by omega)
  ·exact hu _
 ·intro x hx
  simp only[EC,List.mem_map]at hx
  obtain ⟨i,_,rfl⟩:=hx
  exact hs _
theorem AbZ:Bt 4 (Rat.divInt 1 2):=(Bt.mk (k:=4) (z:=1) (d:=2) (by decide) (by decide))
theorem Aa5 (N:LawFLib L):Ev L 215 [] (.bool true):=by
 have A:StGLib L:=N.toStGLib
 have hO:=R4 A.toRefGLib 1 (by omega)
 have hF:=kV A.toRefGLib 1 2 (by omega) (by omega)
 have hh:=AbZ
 have hne : -(Rat.divInt 1 2)≠0:=by decide
 generalize Rat.divInt 1 2=h at *
 have hN:=Z2 A.toRefHLib hh (by omega)
 have hA:Bs 4 [1,-h]:=fun x hx=>by
  rcases List.mem_cons.1 hx with rfl|hx
  ·exact Bt.one 4
  ·obtain rfl:=List.mem_singleton.1 hx
   exact hh.ng
 have hB:Bs 4 [(1:Rat)]:=fun x hx=>by
  obtain rfl:=List.mem_singleton.1 hx
  exact Bt.one 4
 have tB:B5 [(1:Rat)]=[1]:=by decide
 have tA:B5 [1,-h]=[1,-h]:=by
  show List.take (if -h=0 then _ else 2) [1,-h]=_
  rw[if_neg hne]
  rfl
 have hC:=AaO A true true [1] [1,-h] 1 4 tB tA hB hA (by simp) (by simp) rfl rfl (by omega)
 have hok:(EC [1] [1,-h] 1).Ok 1 80:=yF hB hA
 have e:EC [1] [1,-h] 1=⟨[[h]],[1],[h],1⟩:=by
  have:EC [1] [1,-h] 1=⟨[[- -h]],[1],[0-1 * -h],1⟩:=rfl
  rw[this,Rat.neg_neg,show 0-1 * -h=h by grind]
 rw[e]at hC hok
 have hS:=AaW N.toModGLib ⟨[[h]],[1],[h],1⟩ 1 80 true hok (by omega) (by omega)
 refine Ev.x N.JM rfl rfl ?_
 (repeat' (first|(refine AG (fun hc => ?_) (fun hc => ?_)<;>first|(exfalso;omega)|(conv=>whnf))|(refine IM rfl ?_;conv=>whnf)|(refine TD rfl rfl ?_;conv=>whnf)|(refine AE ?_;conv=>whnf)|(refine AC (hO) ?_;conv=>whnf)|(refine AC (hF) ?_;conv=>whnf)|(refine AC (hN) ?_;conv=>whnf)|(refine AC (hC) ?_;conv=>whnf)))
 refine A3 rfl ?_
 (conv=>whnf)
 (repeat' (first|(refine IM rfl ?_;conv=>whnf)|(refine AC (hS) ?_;conv=>whnf)))
 exact IK rfl
end Go.Eng

namespace Go.Eng
open F
attribute [local irreducible] AA AF AR AD B0 AU AX A8 A6 BN AP BK BV CN BI AZ BG BQ AB A7 AJ pw BH BF B9 B8 CI B7 CB BM B3
set_option maxHeartbeats 4000000
variable {L:Lib}
def N2 (l:List Int) (n:Nat):List (List Rat):=FM (F4 l (n*n)) n n
theorem Ade (l:List Int) (n:Nat):(N2 l n).length=n:=by simp [N2,FM]
theorem gH : ∀ m:List (List Rat),FG (m.map fun r=>[AV.sl false (r.map eQ)])
 | []=>trivial
 | r::m=>⟨⟨by simp only[A9,true_and];exact FR r,trivial⟩,gH m⟩
theorem AaU (N:WMatLib L) (l:List Int) (q:Bool) (n:Nat) (hl : ∀ x∈l,G1 x) (hn:n<=64):Ev L 280 [.sl q (l.map NZ),.int .i64 (n:Int)] (.sl false ((N2 l n).map fun r=>[AV.sl false (r.map eQ)])):=by
 have hnn:n*n<=4096:=Nat.mul_le_mul hn hn
 have hR:=fun q=>jZ N.toRatsGLib l q (n*n) hl (by omega)
 have hXl:=SL l (n*n)
 have hc1:((n*n:Nat):Int)=(n:Int)*n:=by simp
 rw[hc1]at hR
 unfold N2
 generalize F4 l (n*n)=X at *
 refine Ev.x N.MB rfl rfl ?_
 (repeat' (first|(refine MI ?_ ?_;omega;conv=>whnf)|(refine AE ?_;conv=>whnf)|(refine AC (hR _) ?_;conv=>whnf)))
 refine CE (fun i=>n-i) (fun (i:Nat)=>i<=n) (fun i=>[(7,.int .i64 i),(6,.row 6 0 1 0 i)]) (fun i=>[(6,6,.rw 1 ((FM X n i).map fun r=>[AV.sl false (r.map eQ)]))]) [] [] 0 (by (conv=>whnf);exact ⟨rfl,rfl,rfl⟩) (by omega) ?_
 intro i p1 ih
 have hrl:(FM X n i).length=i:=by simp [FM]
 by_cases hi:i<n
 ·have h1:i*n+n<=n*n:=by
   have:=Nat.mul_le_mul_right n (show i+1<=n by omega)
   rw[Nat.succ_mul]at this;exact this
  have f1:((i:Int)*n).toNat=i*n:=by rw[<-Int.natCast_mul];rfl
  have f2:((i:Int)*n+n).toNat=i*n+n:=by rw[<-Int.natCast_mul];omega
  have f3:0<=(i:Int)*n:=by rw[<-Int.natCast_mul];omega
  have f4:(i:Int)*n+n<=X.length:=by rw[<-Int.natCast_mul];omega
  have f5:NH X n i=(X.take (i*n+n)).drop (i*n):=rfl
  have hsucc:=pW X n i
  (repeat' (first|(refine AG (fun hc => ?_) (fun hc => ?_)<;>first|(exfalso;omega)|(conv=>whnf))|(refine A0 ?_ ?_;omega;conv=>whnf)|(refine MI ?_ ?_;omega;conv=>whnf)|(refine RK (fun _=>rfl) (S1 ?_ ?_);omega;conv=>whnf)|(refine EK ?_;conv=>whnf)|(refine AE ?_;conv=>whnf)))
  rw[f1,f2,<-f5]
  refine E2 (l:=FM X n i) (z:=1) (bytes:=24) (enc:=fun r:List Rat=>[AV.sl false (r.map eQ)]) (NH X n i) rfl hrl.symm rfl (by omega) (by omega) ?_
  (conv=>whnf)
  (repeat' (refine A0 ?_ ?_;omega;conv=>whnf))
  rw[<-hsucc,show (FM X n (i+1)).length=i+1 by simp [FM]]
  exact A4 [(6,30)] (by (conv=>whnf);exact ⟨rfl,rfl,rfl⟩) (ih (i+1) (by omega) (by omega))
 ·obtain rfl:i=n:=by omega
  clear ih
  (repeat' (first|(refine AG (fun hc => ?_) (fun hc => ?_)<;>first|(exfalso;omega)|(conv=>whnf))|(refine AE ?_;conv=>whnf)))
  refine DE (enc:=fun r:List Rat=>[AV.sl false (r.map eQ)]) (fun _=>rfl) rfl hrl.symm ?_
  (conv=>whnf)
  exact AY rfl (by simp only[A9,true_and];exact gH _)
end Go.Eng
