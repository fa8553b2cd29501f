/-
  Rational numbers and polynomials of the references: Same, SameList, Sign; Trim, Equal, Same.
-/
import Derived.Test.YtiadddpcmkfpjaaGreatB9
import Derived.Test.YtiadddpcmkfpjaaGreatB4
import Derived.Test.YtiadddpcmkfpjaaGreatB7
import Derived.Test.YtiadddpcmkfpjaaGreatB8
set_option linter.unusedSimpArgs false
set_option linter.unusedVariables false
set_option linter.unnecessarySimpa false
namespace Go.Eng
open F
attribute [local irreducible] AKM CmpP Req OpP UnP ConvP RdP LdR StR MkR LenP AppR AppN CpyR RowP SnR Bds SlS CallP CalP FinP pw LdM GetM SetM PutM MkM AppM SnM FlP CallR
set_option maxHeartbeats 8000000
variable {L:Lib}
theorem ev_r1_Same (N:RefHLib L) (q1 q2:Bool) (m:List Nat) (hm:m.length≤274877906944):Ev L 156 [.sl q1 (m.map e32),.sl q2 (m.map e32)] (.bool true):=by
 refine Ev.x N.ref01_Same rfl rfl ?_
 (repeat' (first|(refine CmpP.go (fun hc => ?_) (fun hc => ?_)<;>first|(exfalso;omega)|(conv=>whnf))|(refine LenP.go ?_;conv=>whnf)|(refine AKM.x ?_;conv=>whnf)))
 refine AKM.loop1 (fun i=>m.length-i) (fun (i:Nat)=>i≤m.length) (fun i=>[(5,.int .i64 i)]) (fun _=>[]) [] [] 0 (by (conv=>whnf);exact ⟨rfl,rfl,rfl⟩) (by omega) ?_
 intro i p1 ih
 by_cases hi:i<m.length
 ·obtain ⟨x,hx⟩ : ∃ x,m[i]? = some x:=⟨_,zE hi⟩
  have hx':m[(i:Int).toNat]? = some x:=hx
  (repeat' (first|(refine CmpP.go (fun hc => ?_) (fun hc => ?_)<;>first|(exfalso;omega)|(conv=>whnf))|(refine OpP.add ?_ ?_;omega;conv=>whnf)|(refine LenP.go ?_;conv=>whnf)|(refine RdP.at (by assumption) ?_ rfl ?_;omega;conv=>whnf)|(refine AKM.x ?_;conv=>whnf)))
  exact AKM.back [] (by (conv=>whnf);exact ⟨rfl,rfl,rfl⟩) (ih (i+1) (by omega) (by omega))
 ·obtain rfl:i=m.length:=by omega
  clear ih
  (repeat' (first|(refine CmpP.go (fun hc => ?_) (fun hc => ?_)<;>first|(exfalso;omega)|(conv=>whnf))|(refine LenP.go ?_;conv=>whnf)|(refine AKM.x ?_;conv=>whnf)))
  exact FinP.b rfl
theorem ev_r2_Same (N:RefHLib L) (n q1 q2:Bool) (m:List Nat) (hm:m.length≤274877906944):Ev L 157 [.agg (rZ q1 n m),.agg (rZ q2 n m)] (.bool true):=by
 have h1:=fun q1 q2=>ev_r1_Same N q1 q2 m hm
 refine Ev.x N.ref02_Same rfl rfl ?_
 cases n
 all_goals
  (repeat' (first|(refine AKM.x ?_;conv=>whnf)|(refine CallP.go (h1 _ _) ?_;conv=>whnf)))
  exact FinP.b rfl
theorem ev_r3_Same (N:RefHLib L) {x:Rat} {k:Nat} (hx:Bt k x) (hk:k<2199023255552):Ev L 158 [.agg (eQ x),.agg (eQ x)] (.bool true):=by
 have hs:=hx.sm3 hk
 have h1:=fun q1 q2=>ev_r1_Same N q1 q2 (dg x.den) (by have:=hs.2.2;omega)
 have h2:=fun q1 q2=>ev_r2_Same N (decide (x.num<0)) q1 q2 (dg x.num.natAbs) (by have:=hs.1.2;omega)
 refine Ev.x N.ref03_Same rfl rfl ?_
 (repeat' (first|(refine AKM.x ?_;conv=>whnf)|(refine CallP.go (h1 _ _) ?_;conv=>whnf)|(refine CallP.go (h2 _ _) ?_;conv=>whnf)))
 exact FinP.b rfl
theorem ev_SameList (N:RefHLib L) (q1 q2:Bool) (l:List Rat) (k:Nat) (hl:Bs k l) (hk:k<2199023255552) (hn:l.length≤1099511627776):Ev L 159 [.sl q1 (l.map eQ),.sl q2 (l.map eQ)] (.bool true):=by
 refine Ev.x N.ref03_SameList rfl rfl ?_
 (repeat' (first|(refine CmpP.go (fun hc => ?_) (fun hc => ?_)<;>first|(exfalso;omega)|(conv=>whnf))|(refine LenP.go ?_;conv=>whnf)|(refine AKM.x ?_;conv=>whnf)))
 refine AKM.loop1 (fun i=>l.length-i) (fun (i:Nat)=>i≤l.length) (fun i=>[(5,.int .i64 i)]) (fun _=>[]) [] [] 0 (by (conv=>whnf);exact ⟨rfl,rfl,rfl⟩) (by omega) ?_
 intro i p1 ih
 by_cases hi:i<l.length
 ·obtain ⟨x,hx⟩ : ∃ x,l[i]? = some x:=⟨_,zE hi⟩
  have hx':l[(i:Int).toNat]? = some x:=hx
  have hC:=ev_r3_Same N (hl.at hx) hk
  (repeat' (first|(refine CmpP.go (fun hc => ?_) (fun hc => ?_)<;>first|(exfalso;omega)|(conv=>whnf))|(refine OpP.add ?_ ?_;omega;conv=>whnf)|(refine LenP.go ?_;conv=>whnf)|(refine RdP.at (by assumption) ?_ rfl ?_;omega;conv=>whnf)|(refine AKM.x ?_;conv=>whnf)|(refine CallP.go (hC) ?_;conv=>whnf)))
  exact AKM.back [] (by (conv=>whnf);exact ⟨rfl,rfl,rfl⟩) (ih (i+1) (by omega) (by omega))
 ·obtain rfl:i=l.length:=by omega
  clear ih
  (repeat' (first|(refine CmpP.go (fun hc => ?_) (fun hc => ?_)<;>first|(exfalso;omega)|(conv=>whnf))|(refine LenP.go ?_;conv=>whnf)|(refine AKM.x ?_;conv=>whnf)))
  exact FinP.b rfl
theorem ev_sign3 (N:RefHLib L) {x:Rat} {k:Nat} (hx:Bt k x) (hk:k<2199023255552) : ∃ s:Int,Ev L 155 [.agg (eQ x)] (.int .i64 s)∧(s=0↔x=0):=by
 have hm:=hx.sm3 hk
 obtain ⟨n',m',d',hp,s1,s2,s3,s4⟩:=ev_parts N.toRefGLib (decide (x.num<0)) false (dg x.num.natAbs) (dg x.den) 274877906943 (by omega) (hm.1.le (by omega)) (hm.2.le (by omega))
 have hS:=fun q=>ev_r2_Sign N.toRefGLib n' q m' (s1.le (by omega))
 rw[qv_of]at s4
 have hz:sgn (zv n' m')=0↔x=0:=by
  rw[s4,Rat.mkRat_eq_zero s3]
  unfold sgn;split<;>(try split)<;>omega
 generalize sgn (zv n' m')=s at *
 refine ⟨s,?_,hz⟩
 refine Ev.x N.ref03_Sign rfl rfl ?_
 (repeat' (first|(refine AKM.x ?_;conv=>whnf)|(refine CallP.go (hp) ?_;conv=>whnf)|(refine CallP.go (hS _) ?_;conv=>whnf)))
 exact FinP.i rfl
def cutN (l:List Rat):Nat→Nat
 | 0=>0
 | n+1=>if l.getD n 0=0 then cutN l n else n+1
theorem cutN_le (l:List Rat) : ∀ n,cutN l n≤n
 | 0=>Nat.le_refl _
 | n+1=>by rw[cutN];split;exact Nat.le_succ_of_le (cutN_le l n);exact Nat.le_refl _
def trimQ (l:List Rat):List Rat:=l.take (cutN l l.length)
theorem cutN_take (l:List Rat) (k:Nat) : ∀ n,n≤k→cutN (l.take k) n=cutN l n
 | 0,_=>rfl
 | n+1,h=>by
  rw[cutN,cutN,cutN_take l k n (by omega),List.getD_eq_getElem?_getD,List.getD_eq_getElem?_getD,List.getElem?_take_of_lt (by omega)]
theorem cutN_idem (l:List Rat) : ∀ n,cutN l (cutN l n)=cutN l n
 | 0=>rfl
 | n+1=>by
  rw[cutN];split
  ·exact cutN_idem l n
  ·next h=>rw[cutN,if_neg h]
theorem trimQ_len (l:List Rat):(trimQ l).length=cutN l l.length:=by rw[trimQ,List.length_take];exact Nat.min_eq_left (cutN_le _ _)
theorem trimQ_idem (l:List Rat):trimQ (trimQ l)=trimQ l:=by
 have h:=trimQ_len l
 have h2:cutN (trimQ l) (trimQ l).length=(trimQ l).length:=by
  rw[h,trimQ,cutN_take _ _ _ (Nat.le_refl _),cutN_idem]
 rw[trimQ,h2,List.take_length]
theorem Bs.trim {k:Nat} {l:List Rat} (h:Bs k l):Bs k (trimQ l):=fun x hx=>h x (List.mem_of_mem_take hx)
theorem take_snocQ {l:List Rat} {i:Nat} {x:Rat} (h:l[i]? = some x):l.take (i+1)=l.take i++[x]:=by
 rw[List.take_add_one,h];rfl
theorem ev_r5_Trim (N:R05GLib L) (q:Bool) (l:List Rat) (k:Nat) (hl:Bs k l) (hk:k<2199023255552) (hn:l.length≤1000000):Ev L 171 [.sl q (l.map eQ)] (.sl false ((trimQ l).map eQ)):=by
 refine Ev.x N.ref05_Trim rfl rfl ?_
 (repeat' (first|(refine LenP.go ?_;conv=>whnf)|(refine AKM.x ?_;conv=>whnf)))
 refine AKM.loop1 (fun n=>n) (fun (n:Nat)=>n≤l.length∧cutN l l.length=cutN l n) (fun n=>[(3,.int .i64 n)]) (fun _=>[]) [] [] l.length (by (conv=>whnf);exact ⟨rfl,rfl,rfl⟩) ⟨Nat.le_refl _,rfl⟩ ?_
 intro n ⟨p1,p2⟩ ih
 have done : ∀ {n:Nat},cutN l l.length=n→trimQ l=l.take n:=fun h=>by rw[trimQ,h]
 by_cases hz:n=0∨(∃ m x,n=m+1∧l[m]? = some x∧x≠0)
 ·have hcut:cutN l l.length=n:=by
   rw[p2]
   rcases hz with rfl|⟨m,x,rfl,h1,h2⟩
   ·rfl
   ·rw[cutN,if_neg]
    rw[List.getD_eq_getElem?_getD,h1];exact h2
  rw[done hcut]
  have htl:(l.take n).length=n:=by rw[List.length_take];omega
  have htb:Bs k (l.take n):=hl.take n
  clear ih hcut p2 done
  rcases hz with h0|⟨m,x,hnm,h1,h2⟩
  case' inl=>(repeat' (first|(refine CmpP.go (fun hc => ?_) (fun hc => ?_)<;>first|(exfalso;omega)|(conv=>whnf))|(refine AKM.x ?_;conv=>whnf)))
  case' inr =>
   have h1':l[((n:Int)-1).toNat]? = some x:=by rw[show ((n:Int)-1).toNat=m by omega];exact h1
   obtain ⟨s,hS,hs⟩:=ev_sign3 N.toRefHLib (hl.at h1) hk
   have hs0:s≠0:=fun h=>h2 (hs.1 h)
   (repeat' (first|(refine CmpP.go (fun hc => ?_) (fun hc => ?_)<;>first|(exfalso;omega)|(conv=>whnf))|(refine OpP.sub ?_ ?_;omega;conv=>whnf)|(refine RdP.at (by assumption) ?_ rfl ?_;omega;conv=>whnf)|(refine AKM.x ?_;conv=>whnf)|(refine CallP.go (hS) ?_;conv=>whnf)))
  all_goals
   refine SlS.to (fun _=>rfl) p1 ?_
   generalize l.take n=t at *
   (conv=>whnf)
   (repeat' (refine LenP.go ?_;conv=>whnf))
   refine AKM.loop1 (fun i=>n-i) (fun (i:Nat)=>i≤n) (fun i=>[(26,.int .i64 i),(4,.row 171004 0 3 0 i)]) (fun i=>[(171004,171004,.rw 3 ((t.take i).map eQ))]) [] [] 0 (by (conv=>whnf);exact ⟨rfl,rfl,rfl⟩) (by omega) ?_
   intro i g1 ih
   have hti:(t.take i).length=i:=by rw[List.length_take];omega
   by_cases hi:i<n
   ·all_goals try (exfalso;omega)
    all_goals
     obtain ⟨y,hy⟩ : ∃ y,t[i]? = some y:=⟨_,zE (by omega)⟩
     have hy':t[(i:Int).toNat]? = some y:=hy
     have hsn:=take_snocQ hy
     have hti1:(t.take (i+1)).length=i+1:=by rw[List.length_take];omega
     have hT:=ev_trim3 N.toRefGLib (htb.at hy) hk
     (repeat' (first|(refine CmpP.go (fun hc => ?_) (fun hc => ?_)<;>first|(exfalso;omega)|(conv=>whnf))|(refine RdP.at (by assumption) ?_ rfl ?_;omega;conv=>whnf)|(refine RowP.e1 ?_;conv=>whnf)|(refine AKM.x ?_;conv=>whnf)|(refine CallP.go (hT) ?_;conv=>whnf)))
     refine AppR.one (enc:=eQ) y rfl hti.symm rfl (by omega) (by omega) ?_
     rw[←hsn,hti1]
     (conv=>whnf)
     (repeat' (refine OpP.add ?_ ?_;omega;conv=>whnf))
     exact AKM.back [(171004,171034)] (by (conv=>whnf);exact ⟨rfl,rfl,rfl⟩) (ih (i+1) (by omega) (by omega))
   ·obtain rfl:i=n:=by omega
    clear ih
    rw[List.take_of_length_le (Nat.le_of_eq htl)]
    (repeat' (first|(refine CmpP.go (fun hc => ?_) (fun hc => ?_)<;>first|(exfalso;omega)|(conv=>whnf))|(refine AKM.x ?_;conv=>whnf)))
    refine SnR.all (enc:=eQ) (fun _=>rfl) rfl htl.symm ?_
    (conv=>whnf)
    exact FinP.go rfl (by simp only[Clean,true_and];exact cl_eQs _)
 ·obtain ⟨m,rfl⟩ : ∃ m,n=m+1:=⟨n-1,by omega⟩
  obtain ⟨x,hx⟩ : ∃ x,l[m]? = some x:=⟨_,zE (by omega)⟩
  have hx0:x=0:=by
   rcases Classical.em (x=0) with h|h
   ·exact h
   ·exact (hz (Or.inr ⟨m,x,rfl,hx,h⟩)).elim
  have hx':l[((m+1:Nat)-1:Int).toNat]? = some x:=by rw[show ((m+1:Nat)-1:Int).toNat=m by omega];exact hx
  obtain ⟨s,hS,hs⟩:=ev_sign3 N.toRefHLib (hl.at hx) hk
  have hs0:=hs.2 hx0
  (repeat' (first|(refine CmpP.go (fun hc => ?_) (fun hc => ?_)<;>first|(exfalso;omega)|(conv=>whnf))|(refine OpP.sub ?_ ?_;omega;conv=>whnf)|(refine RdP.at (by assumption) ?_ rfl ?_;omega;conv=>whnf)|(refine AKM.x ?_;conv=>whnf)|(refine CallP.go (hS) ?_;conv=>whnf)))
  rw[show ((m+1:Nat):Int)-1=(m:Int) by omega]
  exact AKM.back [] (by (conv=>whnf);exact ⟨rfl,rfl,rfl⟩) (ih m (by omega) ⟨by omega,by rw[p2,cutN,if_pos (by rw[List.getD_eq_getElem?_getD,hx];exact hx0)]⟩)
theorem ev_r5_Equal (N:R05GLib L) (q1 q2:Bool) (l:List Rat) (k:Nat) (hl:Bs k l) (hk:k<2199023255552) (hn:l.length≤1000000):Ev L 172 [.sl q1 (l.map eQ),.sl q2 (l.map eQ)] (.bool true):=by
 have hS:=fun q1 q2=>ev_SameList N.toRefHLib q1 q2 l k hl hk (by omega)
 refine Ev.x N.ref05_Equal rfl rfl ?_
 (repeat' (first|(refine AKM.x ?_;conv=>whnf)|(refine CallP.go (hS _ _) ?_;conv=>whnf)))
 exact FinP.b rfl
theorem ev_r5_Same (N:R05GLib L) (q1 q2:Bool) (l:List Rat) (k:Nat) (hl:Bs k l) (hk:k<2199023255552) (hn:l.length≤1000000):Ev L 173 [.sl q1 (l.map eQ),.sl q2 (l.map eQ)] (.bool true):=by
 have hT:=fun q=>ev_r5_Trim N q l k hl hk hn
 have hS:=fun q1 q2=>ev_r5_Equal N q1 q2 (trimQ l) k hl.trim hk (by rw[trimQ_len];have:=cutN_le l l.length;omega)
 refine Ev.x N.ref05_Same rfl rfl ?_
 (repeat' (first|(refine AKM.x ?_;conv=>whnf)|(refine CallP.go (hT _) ?_;conv=>whnf)|(refine CallP.go (hS _ _) ?_;conv=>whnf)))
 exact FinP.b rfl
end Go.Eng
namespace Go.Eng
theorem dotQ_comm : ∀ a b:List Rat,dotQ a b=dotQ b a
 | [],[]=>rfl
 | [],_::_=>rfl
 | _::_,[]=>rfl
 | x::a,y::b=>by simp only[dotQ,dotQ_comm a b,Rat.mul_comm]
theorem dotQ_zeros : ∀ (v:List Rat) (n:Nat),dotQ (List.replicate n 0) v=0
 | [],n=>dotQ_nil _
 | y::v,0=>rfl
 | y::v,n+1=>by rw[List.replicate_succ];simp only[dotQ,dotQ_zeros v n];grind
theorem dotQ_zerosR (v:List Rat) (n:Nat):dotQ v (List.replicate n 0)=0:=by rw[dotQ_comm,dotQ_zeros]
theorem dotQ_sml (x:Rat) : ∀ a b:List Rat,dotQ (a.map (x * ·)) b=x*dotQ a b
 | [],_=>by simp [dotQ]
 | _::_,[]=>by simp [dotQ]
 | p::a,q::b=>by simp only[List.map_cons,dotQ,dotQ_sml x a b];grind
def wQ (S:SysQ):Nat→List Rat
 | 0=>S.b
 | j+1=>mvQ S.a (wQ S j)
def conv (A h:Nat→Rat) (K:Nat):Nat→Rat
 | 0=>0
 | a+1=>conv A h K a+A a*h (K-a)
end Go.Eng

namespace Go.Eng
def Ker (m:List (List Rat)) (X:List Rat):Prop := ∀ r∈m,dotQ r X=0
def comb (p f l:Rat) (r t:List Rat):List Rat:=List.zipWith (fun x y=>(x*p-y*f)/l) r t
theorem comb_len {p f l:Rat} {r t:List Rat} (h:r.length=t.length):(comb p f l r t).length=r.length:=by simp [comb,h]
theorem comb_dot (p f l:Rat) : ∀ (r t X:List Rat),r.length=t.length→dotQ (comb p f l r t) X=(p*dotQ r X-f*dotQ t X)/l
 | [],[],X,_=>by
  show dotQ [] X=_
  simp only[dotQ,Rat.div_def];grind
 | x::r,y::t,[],_=>by
  simp only[comb,List.zipWith_cons_cons,dotQ,Rat.div_def];grind
 | x::r,y::t,z::X,h=>by
  have ih:=comb_dot p f l r t X (by simpa using h)
  simp only[comb]at ih
  simp only[comb,List.zipWith_cons_cons,dotQ,ih,Rat.div_def];grind
theorem comb_at {p f l:Rat} {r t:List Rat} {j:Nat} {x y:Rat} (hx:r[j]? = some x) (hy:t[j]? = some y):(comb p f l r t)[j]? = some ((x*p-y*f)/l):=by
 simp [comb,List.getElem?_zipWith,hx,hy]
theorem mem_set_of {m:List (List Rat)} {i:Nat} {x r:List Rat} (h:r∈m.set i x):r=x ∨ ∃ j,j≠i∧m[j]? = some r:=by
 obtain ⟨j,hj⟩:=List.getElem?_of_mem h
 rw[List.getElem?_set]at hj
 by_cases e:i=j
 ·subst e
  rw[if_pos rfl]at hj
  split at hj
  ·exact Or.inl (Option.some.inj hj).symm
  ·cases hj
 ·rw[if_neg e]at hj
  exact Or.inr ⟨j,Ne.symm e,hj⟩
theorem ker_sweep {m:List (List Rat)} {i k:Nat} {r t:List Rat} {p f l:Rat} (hi:m[i]? = some r) (hk:m[k]? = some t) (hik:k≠i) (hl:r.length=t.length) (hp:p≠0) (h0:l≠0) (X:List Rat):Ker (m.set i (comb p f l r t)) X↔Ker m X:=by
 have hc:=comb_dot p f l r t X hl
 have hil:=(zS hi).1
 constructor
 ·intro h r' hr'
  have ht:dotQ t X=0:=h t (by
   refine zM (i:=k) ?_
   rw[List.getElem?_set,if_neg (Ne.symm hik)];exact hk)
  have hn:dotQ (comb p f l r t) X=0:=h _ (zM (i:=i) (by rw[List.getElem?_set,if_pos rfl,if_pos hil]))
  rw[hc,ht]at hn
  have hr0:dotQ r X=0:=by
   have e1:=Rat.div_mul_cancel h0 (a:=p*dotQ r X-f*0)
   rw[hn]at e1
   have e2:p*dotQ r X=0:=by grind
   rcases Rat.mul_eq_zero.1 e2 with h|h
   ·exact absurd h hp
   ·exact h
  obtain ⟨j,hj⟩:=List.getElem?_of_mem hr'
  by_cases e:j=i
  ·subst e
   obtain rfl:=Option.some.inj (hi.symm.trans hj)
   exact hr0
  ·exact h r' (zM (i:=j) (by rw[List.getElem?_set,if_neg (Ne.symm e)];exact hj))
 ·intro h r' hr'
  rcases mem_set_of hr' with rfl|⟨j,_,hj⟩
  ·rw[hc,h r (zM hi),h t (zM hk),Rat.div_def];grind
  ·exact h r' (zM hj)
theorem ker_swap {m:List (List Rat)} {i k:Nat} {a b:List Rat} (hi:m[i]? = some a) (hk:m[k]? = some b) (X:List Rat):Ker ((m.set i b).set k a) X↔Ker m X:=by
 have hil:=(zS hi).1
 have hkl:=(zS hk).1
 constructor
 ·intro h r hr
  obtain ⟨j,hj⟩:=List.getElem?_of_mem hr
  by_cases e1:j=k
  ·subst e1
   obtain rfl:=Option.some.inj (hk.symm.trans hj)
   by_cases e2:i=j
   ·subst e2
    obtain rfl:=Option.some.inj (hi.symm.trans hk)
    exact h _ (zM (i:=i) (by rw[List.getElem?_set,if_pos rfl,List.length_set,if_pos hil]))
   ·exact h _ (zM (i:=i) (by rw[List.getElem?_set,if_neg (Ne.symm e2),List.getElem?_set,if_pos rfl,if_pos hil]))
  ·by_cases e2:j=i
   ·subst e2
    obtain rfl:=Option.some.inj (hi.symm.trans hj)
    exact h _ (zM (i:=k) (by rw[List.getElem?_set,if_pos rfl,List.length_set,if_pos hkl]))
   ·exact h _ (zM (i:=j) (by rw[List.getElem?_set,if_neg (Ne.symm e1),List.getElem?_set,if_neg (Ne.symm e2)];exact hj))
 ·intro h r hr
  rcases mem_set_of hr with rfl|⟨j,_,hj⟩
  ·exact h _ (zM hi)
  ·rcases mem_set_of (zM hj) with rfl|⟨q,_,hq⟩
   ·exact h _ (zM hk)
   ·exact h _ (zM hq)
structure Ech (m:List (List Rat)) (W c:Nat) (P:List Nat):Prop where
 lr : ∀ r∈m,r.length=W
 pl:P.length≤m.length
 inc : ∀ i j p q:Nat,i<j→P[i]? = some p→P[j]? = some q→p<q
 pb : ∀ p∈P,p<c
 nz : ∀ (i p:Nat) (r:List Rat),P[i]? = some p→m[i]? = some r→r.getD p 0≠0 ∧ ∀ j,j<p→r.getD j 0=0
 zr : ∀ (i:Nat) (r:List Rat),P.length≤i→m[i]? = some r → ∀ j,j<c→r.getD j 0=0
theorem Ech.start {m:List (List Rat)} {W:Nat} (h : ∀ r∈m,r.length=W):Ech m W 0 [] :=
 ⟨h,Nat.zero_le _,fun i j p q _ h=>by simp at h,(fun p h=>by cases h),(fun i p r h=>by simp at h),fun i r _ _ j hj=>absurd hj (by omega)⟩
theorem Ech.skip {m:List (List Rat)} {W c:Nat} {P:List Nat} (h:Ech m W c P) (hz : ∀ i r,P.length≤i→m[i]? = some r→r.getD c 0=0):Ech m W (c+1) P :=
 ⟨h.lr,h.pl,h.inc,fun p hp=>Nat.lt_succ_of_lt (h.pb p hp),h.nz,fun i r hi hr j hj=>by
  by_cases e:j=c
  ·subst e;exact hz i r hi hr
  ·exact h.zr i r hi hr j (by omega)⟩
theorem Ech.swap {m:List (List Rat)} {W c i k:Nat} {P:List Nat} {a b:List Rat} (h:Ech m W c P) (hi:m[i]? = some a) (hk:m[k]? = some b) (h1:P.length≤i) (h2:P.length≤k):Ech ((m.set i b).set k a) W c P:=by
 have hg : ∀ q,q<P.length→((m.set i b).set k a)[q]? = m[q]? := fun q hq=>by
  rw[List.getElem?_set,if_neg (by omega),List.getElem?_set,if_neg (by omega)]
 have hm : ∀ q r,P.length≤q→((m.set i b).set k a)[q]? = some r → ∃ q',P.length≤q'∧m[q']? = some r:=fun q r hq hr=>by
  rw[List.getElem?_set]at hr
  split at hr
  ·split at hr
   ·obtain rfl:=Option.some.inj hr;exact ⟨i,h1,hi⟩
   ·cases hr
  ·rw[List.getElem?_set]at hr
   split at hr
   ·split at hr
    ·obtain rfl:=Option.some.inj hr;exact ⟨k,h2,hk⟩
    ·cases hr
   ·exact ⟨q,hq,hr⟩
 refine ⟨fun r hr => ?_,by simpa using h.pl,h.inc,h.pb,fun q p r hp hr => ?_,fun q r hq hr j hj => ?_⟩
 ·rcases mem_set_of hr with rfl|⟨j,_,hj⟩
  ·exact h.lr _ (zM hi)
  ·rcases mem_set_of (zM hj) with rfl|⟨q,_,hq⟩
   ·exact h.lr _ (zM hk)
   ·exact h.lr _ (zM hq)
 ·rw[hg q (zS hp).1]at hr
  exact h.nz q p r hp hr
 ·obtain ⟨q',h3,h4⟩:=hm q r hq hr
  exact h.zr q' r h3 h4 j hj
theorem Ech.pivot {m:List (List Rat)} {W c:Nat} {P:List Nat} {t:List Rat} (h:Ech m W c P) (ht:m[P.length]? = some t) (hn:t.getD c 0≠0) (hz : ∀ i r,P.length<i→m[i]? = some r→r.getD c 0=0):Ech m W (c+1) (P++[c]):=by
 have hpl:=(zS ht).1
 refine ⟨h.lr,by simp;omega,fun i j p q hij hp hq => ?_,fun p hp => ?_,fun i p r hp hr => ?_,fun i r hi hr j hj => ?_⟩
 ·have hjl:=(zS hq).1
  rw[List.length_append,List.length_singleton]at hjl
  rw[List.getElem?_append_left (by omega)]at hp
  by_cases e:j<P.length
  ·rw[List.getElem?_append_left e]at hq
   exact h.inc i j p q hij hp hq
  ·rw[List.getElem?_append_right (by omega),show j-P.length=0 by omega]at hq
   obtain rfl:=Option.some.inj hq
   exact h.pb p (zM hp)
 ·rcases List.mem_append.1 hp with hp|hp
  ·exact Nat.lt_succ_of_lt (h.pb p hp)
  ·obtain rfl:=List.mem_singleton.1 hp;omega
 ·by_cases e:i<P.length
  ·rw[List.getElem?_append_left e]at hp
   exact h.nz i p r hp hr
  ·have hil:=(zS hp).1
   rw[List.length_append,List.length_singleton]at hil
   rw[List.getElem?_append_right (by omega),show i-P.length=0 by omega]at hp
   obtain rfl:=Option.some.inj hp
   obtain rfl:i=P.length:=by omega
   obtain rfl:=Option.some.inj (ht.symm.trans hr)
   exact ⟨hn,fun j hj=>h.zr P.length _ (Nat.le_refl _) ht j hj⟩
 ·rw[List.length_append,List.length_singleton]at hi
  by_cases e:j=c
  ·subst e;exact hz i r (by omega) hr
  ·exact h.zr i r (by omega) hr j (by omega)
theorem Ech.diag {m:List (List Rat)} {W c:Nat} {P:List Nat} (h:Ech m W c P) (hP:P.length=c) : ∀ i p:Nat,P[i]? = some p→p=i:=by
 have up : ∀ d i p:Nat,P[i]? = some p→i+d<c→p+d<c:=by
  intro d
  induction d with
  | zero=>intro i p hp _;exact h.pb p (zM hp)
  | succ d ih =>
   intro i p hp hi
   obtain ⟨q,hq⟩ : ∃ q,P[i+1]? = some q:=⟨_,zE (by omega)⟩
   have h1:=h.inc i (i+1) p q (by omega) hp hq
   have h2:=ih (i+1) q hq (by omega)
   omega
 have dn : ∀ i p:Nat,P[i]? = some p→i≤p:=by
  intro i
  induction i with
  | zero=>intro p _;omega
  | succ i ih =>
   intro p hp
   have hil:=(zS hp).1
   obtain ⟨q,hq⟩ : ∃ q,P[i]? = some q:=⟨_,zE (by omega)⟩
   have h1:=h.inc i (i+1) q p (by omega) hq hp
   have h2:=ih q hq
   omega
 intro i p hp
 have hil:=(zS hp).1
 have h1:=dn i p hp
 have h2:=up (c-1-i) i p hp (by omega)
 omega
end Go.Eng

namespace Go.Eng
def sumF (f:Nat→Rat):Nat→Rat
 | 0=>0
 | n+1=>sumF f n+f n
theorem sumF_congr {f g:Nat→Rat} : ∀ n,(∀ j,j<n→f j=g j)→sumF f n=sumF g n
 | 0,_=>rfl
 | n+1,h=>by rw[sumF,sumF,sumF_congr n fun j hj=>h j (by omega),h n (by omega)]
theorem sumF_zero {f:Nat→Rat} : ∀ n,(∀ j,j<n→f j=0)→sumF f n=0
 | 0,_=>rfl
 | n+1,h=>by rw[sumF,sumF_zero n fun j hj=>h j (by omega),h n (by omega),Rat.add_zero]
theorem sumF_tail {f:Nat→Rat} {n:Nat} : ∀ d,(∀ j,n≤j→f j=0)→sumF f (n+d)=sumF f n
 | 0,_=>rfl
 | d+1,h=>by rw[←Nat.add_assoc,sumF,sumF_tail d h,h (n+d) (by omega),Rat.add_zero]
theorem sumF_one {f:Nat→Rat} {k:Nat} : ∀ n,k<n→(∀ j,j<n→j≠k→f j=0)→sumF f n=f k
 | n+1,hk,h=>by
  by_cases e:k=n
  ·subst e
   rw[sumF,sumF_zero k fun j hj=>h j (by omega) (by omega),Rat.zero_add]
  ·rw[sumF,sumF_one n (by omega) fun j hj=>h j (by omega),h n (by omega) (Ne.symm e),Rat.add_zero]
theorem sumF_upd (R y:Nat→Rat) (v:Rat) (k:Nat) : ∀ n,sumF (fun j=>R j*(if j=k then v else y j)) n=sumF (fun j=>R j*y j) n+if k<n then R k*(v-y k) else 0
 | 0=>by simp [sumF,Rat.add_zero]
 | n+1=>by
  rw[sumF,sumF,sumF_upd R y v k n]
  by_cases e:n=k
  ·subst e
   rw[if_pos rfl,if_neg (Nat.lt_irrefl n),if_pos (Nat.lt_succ_self n)];grind
  ·rw[if_neg e]
   by_cases h:k<n
   ·rw[if_pos h,if_pos (by omega)];grind
   ·rw[if_neg h,if_neg (by omega)];grind
theorem sumF_shift (f:Nat→Rat) : ∀ n,sumF f (n+1)=f 0+sumF (fun j=>f (j+1)) n
 | 0=>by simp only[sumF];grind
 | n+1=>by rw[sumF,sumF_shift f n,sumF];grind
theorem dotQ_sum : ∀ (r X:List Rat) (n:Nat),r.length≤n→dotQ r X=sumF (fun j=>r.getD j 0*X.getD j 0) n
 | [],X,n,_=>by rw[sumF_zero n fun j _=>by simp];rfl
 | x::r,[],n,_=>by rw[dotQ_nil,sumF_zero n fun j _=>by simp]
 | x::r,y::X,0,h=>by simp at h
 | x::r,y::X,n+1,h=>by
  rw[sumF_shift,dotQ,dotQ_sum r X n (by simpa using h)]
  simp
def atQ (m:List (List Rat)) (i j:Nat):Rat:=(m.getD i []).getD j 0
theorem atQ_eq {m:List (List Rat)} {i:Nat} {r:List Rat} (h:m[i]? = some r) (j:Nat):atQ m i j=r.getD j 0:=by
 rw[atQ,show m.getD i []=r by rw[List.getD_eq_getElem?_getD,h];rfl]
def Tri (R:Nat→Nat→Rat) (c:Nat):Prop := ∀ i,i<c→R i i≠0 ∧ ∀ j,j<i→R i j=0
theorem tri_ex {R:Nat→Nat→Rat} {c:Nat} (h:Tri R c) (f:Nat→Rat) : ∀ d,d≤c → ∃ y:Nat→Rat,∀ i,c-d≤i→i<c→sumF (fun j=>R i j*y j) c=f i
 | 0,_=>⟨fun _=>0,fun i h1 h2=>absurd h2 (by omega)⟩
 | d+1,hd=>by
  obtain ⟨y,hy⟩:=tri_ex h f d (by omega)
  obtain ⟨k,hk⟩ : ∃ k,k=c-(d+1):=⟨_,rfl⟩
  have hkc:k<c:=by omega
  refine ⟨fun j=>if j=k then y k+(f k-sumF (fun j=>R k j*y j) c)/R k k else y j,fun i h1 h2 => ?_⟩
  rw[sumF_upd (R i) y _ k c,if_pos hkc]
  by_cases e:i=k
  ·subst e
   have h0:=(h i hkc).1
   have:=Rat.div_mul_cancel h0 (a:=f i-sumF (fun j=>R i j*y j) c)
   grind
  ·rw[hy i (by omega) h2,(h i h2).2 k (by omega)];grind
theorem tri_zero {R:Nat→Nat→Rat} {c:Nat} (h:Tri R c) {y:Nat→Rat} (hy : ∀ i,i<c→sumF (fun j=>R i j*y j) c=0) : ∀ d,d≤c → ∀ j,c-d≤j→j<c→y j=0
 | 0,_=>fun j h1 h2=>absurd h2 (by omega)
 | d+1,hd=>fun j h1 h2=>by
  have ih:=tri_zero h hy d (by omega)
  by_cases e:c-d≤j
  ·exact ih j e h2
  ·have h3:=hy j h2
   rw[sumF_one c h2 fun q hq hn=>by
    by_cases e2:q<j
    ·rw[(h j h2).2 q e2,Rat.zero_mul]
    ·rw[ih q (by omega) hq,Rat.mul_zero]]at h3
   rcases Rat.mul_eq_zero.1 h3 with h4|h4
   ·exact absurd h4 (h j h2).1
   ·exact h4
theorem Ech.low {m:List (List Rat)} {W c:Nat} {P:List Nat} (h:Ech m W c P) : ∀ i p:Nat,P[i]? = some p→i≤p
 | 0,p,_=>Nat.zero_le p
 | i+1,p,hp=>by
  have hil:=(zS hp).1
  obtain ⟨q,hq⟩ : ∃ q,P[i]? = some q:=⟨_,zE (by omega)⟩
  have h1:=h.inc i (i+1) q p (by omega) hq hp
  have h2:=h.low i q hq
  omega
theorem Ech.le {m:List (List Rat)} {W c:Nat} {P:List Nat} (h:Ech m W c P):P.length≤c:=by
 cases e:P.length with
 | zero=>exact Nat.zero_le c
 | succ k =>
  obtain ⟨q,hq⟩ : ∃ q,P[k]? = some q:=⟨_,zE (by omega)⟩
  have h1:=h.low k q hq
  have h2:=h.pb q (zM hq)
  omega
theorem Ech.wide {m:List (List Rat)} {W c n:Nat} {P:List Nat} (h:Ech m W c P) (hP:P.length=m.length) (hn:c≤n):Ech m W n P :=
 ⟨h.lr,h.pl,h.inc,fun p hp=>Nat.lt_of_lt_of_le (h.pb p hp) hn,h.nz,fun i r hi hr=>by
  have:=(zS hr).1
  omega⟩
theorem row_ker {m:List (List Rat)} {W i n:Nat} {r X:List Rat} (hr:m[i]? = some r) (hl:r.length=W) (hn:n≤W) (hX : ∀ j,n≤j→X.getD j 0=0):dotQ r X=sumF (fun j=>atQ m i j*X.getD j 0) n:=by
 obtain ⟨d,rfl⟩:=Nat.exists_eq_add_of_le hn
 rw[dotQ_sum r X (n+d) (by omega),sumF_tail d fun j hj=>by rw[hX j hj,Rat.mul_zero]]
 exact sumF_congr n fun j _=>by rw[atQ_eq hr]
theorem Ech.tri {m:List (List Rat)} {W n c:Nat} {P:List Nat} (h:Ech m W n P) (hc : ∀ i,i<c→P[i]? = some i):Tri (atQ m) c:=fun i hi=>by
 have h1:=(zS (hc i hi)).1
 obtain ⟨r,hr⟩ : ∃ r,m[i]? = some r:=⟨_,zE (Nat.lt_of_lt_of_le h1 h.pl)⟩
 have:=h.nz i i r (hc i hi) hr
 rw[atQ_eq hr]
 exact ⟨this.1,fun j hj=>by rw[atQ_eq hr];exact this.2 j hj⟩
theorem Ech.full {m:List (List Rat)} {W n:Nat} {P:List Nat} (h:Ech m W n P) (hP:P.length=n) (hW:n≤W) {X:List Rat} (hk:Ker m X) (hX : ∀ j,n≤j→X.getD j 0=0) (j:Nat):X.getD j 0=0:=by
 have hd : ∀ i,i<n→P[i]? = some i:=fun i hi=>by
  obtain ⟨q,hq⟩ : ∃ q,P[i]? = some q:=⟨_,zE (by omega)⟩
  rw[hq,h.diag hP i q hq]
 have ht:=h.tri hd
 by_cases e:j<n
 ·refine tri_zero ht (y:=fun j=>X.getD j 0) (fun i hi => ?_) n (Nat.le_refl n) j (by omega) e
  obtain ⟨r,hr⟩ : ∃ r,m[i]? = some r:=⟨_,zE (by have:=h.pl;omega)⟩
  rw[←row_ker hr (h.lr r (zM hr)) hW hX]
  exact hk r (zM hr)
 ·exact hX j (by omega)
theorem Ech.gap {m:List (List Rat)} {W n:Nat} {P:List Nat} (h:Ech m W n P) : ∀ c:Nat,c≤P.length→(∀ i:Nat,i<c→P[i]? = some i) ∨ ∃ k,(∀ i,i<k→P[i]? = some i) ∧ ∃ p:Nat,P[k]? = some p∧k<p
 | 0,_=>Or.inl fun i hi=>absurd hi (by omega)
 | c+1,hc=>by
  rcases h.gap c (by omega) with h1|h1
  ·obtain ⟨q,hq⟩ : ∃ q,P[c]? = some q:=⟨_,zE (by omega)⟩
   have h2:=h.low c q hq
   by_cases e:q=c
   ·subst e
    exact Or.inl fun i hi=>by
     by_cases e:i=q
     ·subst e;exact hq
     ·exact h1 i (by omega)
   ·exact Or.inr ⟨c,h1,q,hq,by omega⟩
  ·exact Or.inr h1
theorem getD_map_range (f:Nat→Rat) (W j:Nat):((List.range W).map f).getD j 0=if j<W then f j else 0:=by
 rw[List.getD_eq_getElem?_getD,List.getElem?_map]
 by_cases h:j<W
 ·rw[List.getElem?_range h,if_pos h];rfl
 ·rw[List.getElem?_eq_none (by simp;omega),if_neg h];rfl
theorem Ech.less {m:List (List Rat)} {W n:Nat} {P:List Nat} (h:Ech m W n P) (hP:P.length<n) (hW:n≤W) : ∃ X:List Rat,X.length=W∧Ker m X∧(∀ j,n≤j→X.getD j 0=0) ∧ ∃ j,X.getD j 0≠0:=by
 obtain ⟨c,hcn,hc,hz⟩ : ∃ c,c<n∧(∀ i,i<c→P[i]? = some i) ∧ ∀ i r,c≤i→m[i]? = some r → ∀ j,j≤c→r.getD j 0=0:=by
  rcases h.gap P.length (Nat.le_refl _) with h1|⟨k,h1,p,h2,h3⟩
  ·exact ⟨P.length,hP,h1,fun i r hi hr j hj=>h.zr i r hi hr j (by omega)⟩
  ·refine ⟨k,Nat.lt_trans h3 (h.pb p (zM h2)),h1,fun i r hi hr j hj => ?_⟩
   by_cases e:i<P.length
   ·obtain ⟨q,hq⟩ : ∃ q,P[i]? = some q:=⟨_,zE e⟩
    refine (h.nz i q r hq hr).2 j ?_
    by_cases e2:i=k
    ·subst e2
     obtain rfl:=Option.some.inj (h2.symm.trans hq)
     omega
    ·have:=h.inc k i p q (by omega) h2 hq
     omega
   ·exact h.zr i r (by omega) hr j (by have:=h.pb p (zM h2);omega)
 obtain ⟨y,hy⟩:=tri_ex (h.tri hc) (fun i=>atQ m i c) c (Nat.le_refl c)
 have hg : ∀ j,((List.range W).map fun j=>if j<c then y j else if j=c then (-1:Rat) else 0).getD j 0=if j<c then y j else if j=c then (-1:Rat) else 0:=fun j=>by
  rw[getD_map_range]
  by_cases e:j<W
  ·rw[if_pos e]
  ·rw[if_neg e,if_neg (by omega),if_neg (by omega)]
 refine ⟨(List.range W).map fun j=>if j<c then y j else if j=c then (-1:Rat) else 0,by simp,fun r hr => ?_,fun j hj => ?_,c,?_⟩
 ·obtain ⟨i,hi⟩:=List.getElem?_of_mem hr
  rw[row_ker hi (h.lr r hr) (show c+1≤W by omega) fun j hj=>by rw[hg,if_neg (by omega),if_neg (by omega)],sumF,hg,if_neg (Nat.lt_irrefl c),if_pos rfl]
  by_cases e:i<c
  ·rw[sumF_congr c (g:=fun j=>atQ m i j*y j) fun j hj=>by rw[hg,if_pos hj],hy i (by omega) e];grind
  ·rw[sumF_zero c fun j hj=>by rw[atQ_eq hi,hz i r (by omega) hi j (by omega),Rat.zero_mul],atQ_eq hi,hz i r (by omega) hi c (Nat.le_refl c),Rat.zero_mul,Rat.add_zero]
 ·rw[hg,if_neg (by omega),if_neg (by omega)]
 ·rw[hg,if_neg (Nat.lt_irrefl c),if_pos rfl]
  decide
def Scl (m a:List (List Rat)):Prop:=m.length=a.length ∧ ∀ (i:Nat) (r:List Rat),a[i]? = some r → ∃ s:Rat,s≠0∧m[i]? = some (r.map (· * s))
theorem dotQ_smr (x:Rat) : ∀ a b:List Rat,dotQ (a.map (· * x)) b=dotQ a b*x
 | [],b=>by simp [dotQ]
 | a::l,[]=>by rw[dotQ_nil,dotQ_nil,Rat.zero_mul]
 | a::l,b::k=>by
  simp only[List.map_cons,dotQ,dotQ_smr x l k];grind
theorem Scl.ker {m a:List (List Rat)} (h:Scl m a) (X:List Rat):Ker m X↔Ker a X:=by
 constructor
 ·intro hk r hr
  obtain ⟨i,hi⟩:=List.getElem?_of_mem hr
  obtain ⟨s,hs,hm⟩:=h.2 i r hi
  have:=hk _ (zM hm)
  rw[dotQ_smr]at this
  rcases Rat.mul_eq_zero.1 this with h|h
  ·exact h
  ·exact absurd h hs
 ·intro hk r hr
  obtain ⟨i,hi⟩:=List.getElem?_of_mem hr
  obtain ⟨q,hq⟩ : ∃ q,a[i]? = some q:=⟨_,zE (by have:=(zS hi).1;have:=h.1;omega)⟩
  obtain ⟨s,hs,hm⟩:=h.2 i q hq
  obtain rfl:=Option.some.inj (hi.symm.trans hm)
  rw[dotQ_smr,hk q (zM hq),Rat.zero_mul]
def join2 (a b:List (List Rat)):List (List Rat):=List.zipWith (· ++ ·) a b
def NS (n:Nat) (a:List (List Rat)):Prop := ∀ X:List Rat,X.length=n→Ker a X → ∀ j,X.getD j 0=0
theorem dotQ_app : ∀ (u y v z:List Rat),u.length=y.length→dotQ (u++v) (y++z)=dotQ u y+dotQ v z
 | [],[],v,z,_=>by simp [dotQ,Rat.zero_add]
 | x::u,w::y,v,z,h=>by
  simp only[List.cons_append,dotQ,dotQ_app u y v z (by simpa using h)];grind
theorem join_at {a b:List (List Rat)} {i:Nat} {r s:List Rat} (hr:a[i]? = some r) (hs:b[i]? = some s):(join2 a b)[i]? = some (r++s):=by
 simp [join2,List.getElem?_zipWith,hr,hs]
theorem ker_join {n:Nat} {a b:List (List Rat)} (hl:a.length=b.length) (ha : ∀ r∈a,r.length=n) (y z:List Rat) (hy:y.length=n):Ker (join2 a b) (y++z) ↔ ∀ (i:Nat) (r s:List Rat),a[i]? = some r→b[i]? = some s→dotQ r y+dotQ s z=0:=by
 constructor
 ·intro h i r s hr hs
  rw[←dotQ_app r y s z (by rw[ha r (zM hr),hy])]
  exact h _ (zM (join_at hr hs))
 ·intro h q hq
  obtain ⟨i,hi⟩:=List.getElem?_of_mem hq
  have hil:=(zS hi).1
  simp only[join2,List.length_zipWith]at hil
  obtain ⟨r,hr⟩ : ∃ r,a[i]? = some r:=⟨_,zE (by omega)⟩
  obtain ⟨s,hs⟩ : ∃ s,b[i]? = some s:=⟨_,zE (by omega)⟩
  obtain rfl:=Option.some.inj ((join_at hr hs).symm.trans hi)
  rw[dotQ_app r y s z (by rw[ha r (zM hr),hy])]
  exact h i r s hr hs
theorem dotQ_zr {X:List Rat} (h : ∀ j,X.getD j 0=0) (r:List Rat):dotQ r X=0:=by
 rw[dotQ_sum r X r.length (Nat.le_refl _)]
 exact sumF_zero _ fun j _=>by rw[h,Rat.mul_zero]
theorem rank_ns {m a b:List (List Rat)} {w n:Nat} {P:List Nat} (h:Ech m (n+w) n P) (hk : ∀ X,Ker m X↔Ker (join2 a b) X) (hl:a.length=b.length) (ha : ∀ r∈a,r.length=n):P.length=n↔NS n a:=by
 constructor
 ·intro hP X hX hka j
  have h1:Ker m (X++List.replicate w 0):=(hk _).2 ((ker_join hl ha X _ hX).2 fun i r s hr hs=>by
   rw[hka r (zM hr),dotQ_zerosR,Rat.add_zero])
  by_cases e:j<n
  ·have h2:=h.full hP (by omega) h1 (fun j hj=>by
    rw[List.getD_eq_getElem?_getD,List.getElem?_append_right (by omega),List.getElem?_replicate]
    split<;>rfl) j
   rw[List.getD_eq_getElem?_getD,List.getElem?_append_left (by omega)]at h2
   rw[List.getD_eq_getElem?_getD];exact h2
  ·rw[List.getD_eq_getElem?_getD,List.getElem?_eq_none (by omega)];rfl
 ·intro hns
  have h1:=h.le
  rcases Nat.lt_or_ge P.length n with hP|hP
  ·exfalso
   obtain ⟨X,hX,hX1,hX2,j,hj⟩:=h.less hP (by omega)
   have h2:=(hk _).1 hX1
   rw[←List.take_append_drop n X]at h2
   have htl:(X.take n).length=n:=by simp;omega
   have h3:=(ker_join hl ha _ _ htl).1 h2
   have hz : ∀ q,(X.drop n).getD q 0=0:=fun q=>by
    have:=hX2 (n+q) (by omega)
    rw[List.getD_eq_getElem?_getD]at this
    rw[List.getD_eq_getElem?_getD,List.getElem?_drop];exact this
   have h4:=hns (X.take n) htl (fun r hr=>by
    obtain ⟨i,hi⟩:=List.getElem?_of_mem hr
    obtain ⟨s,hs⟩ : ∃ s,b[i]? = some s:=⟨_,zE (by have:=(zS hi).1;omega)⟩
    have:=h3 i r s hi hs
    rw[dotQ_zr hz,Rat.add_zero]at this
    exact this) j
   by_cases e:j<n
   ·rw[List.getD_eq_getElem?_getD,List.getElem?_take_of_lt e,←List.getD_eq_getElem?_getD]at h4
    exact hj h4
   ·exact hj (hX2 j (by omega))
  ·omega
def negU (w c:Nat):List Rat:=(List.range w).map fun q=>if q=c then -1 else 0
theorem dot_negU {r:List Rat} {w c:Nat} (hr:r.length=w) (hc:c<w):dotQ r (negU w c) = - r.getD c 0:=by
 rw[dotQ_sum r _ w (by omega),sumF_one w hc fun j hj hn=>by rw[negU,getD_map_range,if_pos hj,if_neg hn,Rat.mul_zero],negU,getD_map_range,if_pos hc,if_pos rfl]
 grind
theorem col_sol {m a b:List (List Rat)} {w n c:Nat} {y:List Rat} (hk : ∀ X,Ker m X↔Ker (join2 a b) X) (hl:a.length=b.length) (ha : ∀ r∈a,r.length=n) (hb : ∀ r∈b,r.length=w) (hc:c<w) (hy:y.length=n) (hm : ∀ r∈m,r.length=n+w) (hs : ∀ r∈m,dotQ (r.take n) y=r.getD (n+c) 0) {i:Nat} {r s:List Rat} (hr:a[i]? = some r) (hi:b[i]? = some s):dotQ r y=s.getD c 0:=by
 have h1:Ker m (y++negU w c):=fun q hq=>by
  have hq1:=hm q hq
  have e:q=q.take n++q.drop n:=(List.take_append_drop n q).symm
  rw[e,dotQ_app _ _ _ _ (by rw[List.length_take,hy];omega),hs q hq,dot_negU (by rw[List.length_drop];omega) hc]
  have:(q.drop n).getD c 0=q.getD (n+c) 0:=by rw[List.getD_eq_getElem?_getD,List.getElem?_drop,←List.getD_eq_getElem?_getD]
  rw[this];grind
 have h2:=(ker_join hl ha y _ hy).1 ((hk _).1 h1) i r s hr hi
 rw[dot_negU (hb s (zM hi)) hc]at h2
 grind
theorem sub_ker {a:List (List Rat)} {n:Nat} (ha : ∀ r∈a,r.length=n) {X Y:List Rat} (hX:X.length=n) (hY:Y.length=n) (h:mvQ a X=mvQ a Y) (hns:NS n a):X=Y:=by
 have h1:=hns ((List.range n).map fun j=>X.getD j 0-Y.getD j 0) (by simp) (fun r hr=>by
  obtain ⟨i,hi⟩:=List.getElem?_of_mem hr
  have e:dotQ r X=dotQ r Y:=by
   have:=congrArg (·[i]?) h
   simp only[mvQ,List.getElem?_map,hi,Option.map_some,Option.some.injEq]at this
   exact this
  have hs : ∀ k,sumF (fun j=>r.getD j 0*((List.range n).map fun j=>X.getD j 0-Y.getD j 0).getD j 0) k=sumF (fun j=>r.getD j 0*X.getD j 0) k-sumF (fun j=>r.getD j 0*Y.getD j 0) k:=by
   intro k
   induction k with
   | zero=>simp only[sumF];grind
   | succ k ih =>
    rw[sumF,sumF,sumF,ih,getD_map_range]
    by_cases e:k<n
    ·rw[if_pos e];grind
    ·rw[if_neg e,List.getD_eq_getElem?_getD,List.getD_eq_getElem?_getD,List.getD_eq_getElem?_getD,List.getElem?_eq_none (show X.length≤k by omega),List.getElem?_eq_none (show Y.length≤k by omega)]
     simp only[Option.getD_none];grind
  rw[dotQ_sum r _ r.length (Nat.le_refl _),hs,←dotQ_sum r X _ (Nat.le_refl _),←dotQ_sum r Y _ (Nat.le_refl _),e];grind)
 refine List.ext_getElem? fun j => ?_
 by_cases e:j<n
 ·have:=h1 j
  rw[getD_map_range,if_pos e]at this
  have h2:X.getD j 0=Y.getD j 0:=by grind
  rw[List.getD_eq_getElem?_getD,List.getD_eq_getElem?_getD,zE (by omega),zE (by omega)]at h2
  rw[zE (by omega),zE (by omega)]
  exact congrArg some h2
 ·rw[List.getElem?_eq_none (by omega),List.getElem?_eq_none (by omega)]
end Go.Eng

namespace Go.Eng
def sumQ (vals:List Rat):List (Int × Int)→Rat
 | []=>0
 | t::ts=>(t.2:Rat)*vals.getD t.1.toNat 0+sumQ vals ts
def exS (u:Rat) (ex:Int):Nat→List Rat→List (List (Int × Int))→List Rat
 | _,vals,[]=>vals
 | k,vals,ts::r=>exS u ex (k+1) (vals++[sumQ vals ts/u+(if (k:Int)=ex then 1 else 0)]) r
theorem Bs.getD {k:Nat} {l:List Rat} (h:Bs k l) (i:Nat):Bt k (l.getD i 0):=by
 rw[List.getD_eq_getElem?_getD]
 cases e:l[i]? with
 | none=>exact Bt.zero k
 | some x=>exact h.at e
theorem Bs.sum {k j:Nat} {vals:List Rat} (hv:Bs k vals) : ∀ (ts:List (Int × Int)),(∀ t∈ts,Bt j ((t.2:Int):Rat))→Bt (ts.length*(j+k+1)) (sumQ vals ts)
 | [],_=>Bt.zero _
 | t::ts,h=>by
  have h1:=(h t (by simp)).mul (hv.getD t.1.toNat)
  have h2:=Bs.sum hv ts (fun u hu=>h u (by simp [hu]))
  refine (h1.add h2).le ?_
  rw[List.length_cons,Nat.succ_mul];omega
def LinV (C:List (List Rat)) (z vals:List Rat):Prop := ∀ m,m<vals.length→vals.getD m 0=dotQ (C.map fun c=>c.getD m 0) z
theorem dotQ_smul (x:Rat) : ∀ (a z:List Rat),dotQ (a.map fun c=>x*c) z=x*dotQ a z
 | [],z=>by cases z<;>simp [dotQ]
 | p::a,[]=>by simp [dotQ]
 | p::a,q::z=>by
  simp only[List.map_cons,dotQ]
  rw[dotQ_smul x a z];grind
theorem dotQ_mapadd {α:Type} (f g:α→Rat) : ∀ (a:List α) (z:List Rat),dotQ (a.map fun c=>f c+g c) z=dotQ (a.map f) z+dotQ (a.map g) z
 | [],z=>by cases z<;>(simp only[List.map_nil,dotQ];grind)
 | p::a,[]=>by simp only[List.map_cons,dotQ];grind
 | p::a,q::z=>by
  simp only[List.map_cons,dotQ]
  rw[dotQ_mapadd f g a z];grind
theorem dotQ_zero {α:Type} : ∀ (a:List α) (z:List Rat),dotQ (a.map fun _=>(0:Rat)) z=0
 | [],z=>by cases z<;>rfl
 | p::a,[]=>rfl
 | p::a,q::z=>by
  simp only[List.map_cons,dotQ]
  rw[dotQ_zero a z];grind
theorem LinV.sum {C:List (List Rat)} {z vals:List Rat} (h:LinV C z vals) : ∀ (ts:List (Int × Int)),(∀ t∈ts,t.1.toNat<vals.length)→sumQ vals ts=dotQ (C.map fun c=>sumQ c ts) z
 | [],_=>(dotQ_zero C z).symm
 | t::ts,ht=>by
  simp only[sumQ]
  rw[dotQ_mapadd (fun c=>(t.2:Rat)*c.getD t.1.toNat 0) (fun c=>sumQ c ts),←LinV.sum h ts (fun u hu=>ht u (by simp [hu])),h _ (ht t (by simp))]
  have:=dotQ_smul (t.2:Rat) (C.map fun c=>c.getD t.1.toNat 0) z
  rw[List.map_map]at this
  rw[←this];rfl
theorem getD_snoc_lt {l:List Rat} {x:Rat} {m:Nat} (h:m<l.length):(l++[x]).getD m 0=l.getD m 0:=by
 rw[List.getD_eq_getElem?_getD,List.getD_eq_getElem?_getD,List.getElem?_append_left h]
theorem getD_snoc_eq {l:List Rat} {x:Rat} {m:Nat} (h:m=l.length):(l++[x]).getD m 0=x:=by
 subst h
 rw[List.getD_eq_getElem?_getD,List.getElem?_append_right (Nat.le_refl _)];simp
theorem LinV.all {u:Rat} (hu:u≠0) {z:List Rat} : ∀ (l:List (List (Int × Int))) (k:Nat) (C:List (List Rat)) (vals:List Rat),LinV C z vals→(∀ c∈C,c.length=vals.length)→(∀ i ts,l[i]? = some ts → ∀ t∈ts,t.1.toNat<vals.length+i) →
  LinV (C.map fun c=>exS u (-1) k c l) z (exS u (-1) k vals l)
 | [],_,C,vals,h,_,_=>by
  have e:(C.map fun c=>exS u (-1) 0 c [])=C:=by
   simp [exS]
  simpa [exS] using h
 | ts::l,k,C,vals,h,hc,ht=>by
  have hts:=ht 0 ts rfl
  have e0 : ¬ (k:Int) = -1:=by omega
  simp only[exS,if_neg e0,Rat.add_zero]
  have hs:=h.sum ts (fun t h1=>by have:=hts t h1;omega)
  have hstep:LinV (C.map fun c=>c++[sumQ c ts/u]) z (vals++[sumQ vals ts/u]):=by
   intro m hm
   simp only[List.length_append,List.length_cons,List.length_nil]at hm
   rw[List.map_map]
   by_cases hm2:m<vals.length
   ·rw[getD_snoc_lt hm2,h m hm2]
    congr 1
    refine List.map_congr_left fun c hcm => ?_
    simp only[Function.comp]
    rw[getD_snoc_lt (by rw[hc c hcm];exact hm2)]
   ·rw[getD_snoc_eq (by omega)]
    have e1:(C.map ((fun c=>c.getD m 0) ∘ fun c=>c++[sumQ c ts/u]))=C.map fun c=>u⁻¹*sumQ c ts:=by
     refine List.map_congr_left fun c hcm => ?_
     simp only[Function.comp]
     rw[getD_snoc_eq (by rw[hc c hcm];omega),Rat.div_def,Rat.mul_comm]
    rw[e1,hs,Rat.div_def,Rat.mul_comm]
    have:=dotQ_smul u⁻¹ (C.map fun c=>sumQ c ts) z
    rw[List.map_map]at this
    rw[←this];rfl
  have ih:=LinV.all hu l (k+1) (C.map fun c=>c++[sumQ c ts/u]) (vals++[sumQ vals ts/u]) hstep (fun c hcm=>by
   obtain ⟨c0,h0,rfl⟩:=List.mem_map.1 hcm
   simp [hc c0 h0]) (fun i ts2 h2 t h3=>by
   have:=ht (i+1) ts2 h2 t h3
   simp;omega)
  rw[List.map_map]at ih
  exact ih
theorem Bt.ofInt {k:Nat} {z:Int} (h:z.natAbs≤2^k):Bt k ((z:Int):Rat):=⟨by rw[Rat.num_intCast];exact h,by rw[Rat.den_intCast];exact Nat.one_le_two_pow⟩
end Go.Eng

namespace Go.Eng
theorem Bt.invL {k:Nat} {y:Rat} (h:Bt k y):Bt k y⁻¹:=by
 rw[Rat.inv_def]
 rcases Int.natAbs_eq y.num with e|e
 ·rw[e,Rat.divInt_ofNat]
  exact Bt.mk (by simpa using h.2) h.1
 ·rw[e,Rat.divInt_neg',Rat.divInt_ofNat]
  exact Bt.mk (by simpa using h.2) h.1
theorem Bt.divL {k l:Nat} {x y:Rat} (hx:Bt k x) (hy:Bt l y):Bt (k+l) (x/y):=by
 rw[Rat.div_def]
 exact hx.mul hy.invL
theorem Bt.negL {k:Nat} {x:Rat} (h:Bt k x):Bt k (-x):=⟨by rw[Rat.neg_num,Int.natAbs_neg];exact h.1,by rw[Rat.neg_den];exact h.2⟩
theorem Bt.subL {k l:Nat} {x y:Rat} (hx:Bt k x) (hy:Bt l y):Bt (k+l+1) (x-y):=by
 rw[Rat.sub_eq_add_neg]
 exact hx.add hy.negL
theorem Bt.comb1 {k:Nat} {x p y f l:Rat} (hx:Bt k x) (hp:Bt k p) (hy:Bt k y) (hf:Bt k f) (hl:Bt k l):Bt (5*k+1) ((x*p-y*f)/l) :=
 (((hx.mul hp).subL (hy.mul hf)).divL hl).le (by omega)
theorem comb_mem {p f l:Rat} : ∀ {r t:List Rat} {z:Rat},z∈comb p f l r t → ∃ x∈r,∃ y∈t,z=(x*p-y*f)/l
 | [],_,z,h=>by simp [comb]at h
 | _::_,[],z,h=>by simp [comb]at h
 | x::r,y::t,z,h=>by
  simp only[comb,List.zipWith_cons_cons,List.mem_cons]at h
  rcases h with h|h
  ·exact ⟨x,List.mem_cons_self,y,List.mem_cons_self,h⟩
  ·obtain ⟨a,ha,b,hb,e⟩:=comb_mem (r:=r) (t:=t) h
   exact ⟨a,List.mem_cons_of_mem _ ha,b,List.mem_cons_of_mem _ hb,e⟩
theorem Bs.comb {k:Nat} {r t:List Rat} {p f l:Rat} (hr:Bs k r) (ht:Bs k t) (hp:Bt k p) (hf:Bt k f) (hl:Bt k l):Bs (5*k+1) (comb p f l r t):=fun z hz=>by
 obtain ⟨x,hx,y,hy,rfl⟩:=comb_mem hz
 exact Bt.comb1 (hr x hx) hp (ht y hy) hf hl
theorem comb_getD {p f l:Rat} : ∀ {r t:List Rat},r.length=t.length → ∀ j,(comb p f l r t).getD j 0=(r.getD j 0*p-t.getD j 0*f)/l
 | [],[],_,j=>by simp [comb,Rat.div_def,Rat.zero_mul,Rat.sub_eq_add_neg,Rat.neg_zero,Rat.add_zero]
 | x::r,y::t,_,0=>by simp [comb]
 | x::r,y::t,h,j+1=>by
  have:=comb_getD (p:=p) (f:=f) (l:=l) (r:=r) (t:=t) (by simpa using h) j
  simp only[comb]at this
  simpa [comb] using this
def scF (s x:Rat):Rat:=s*(((s*x).den:Nat):Rat)
def scQ (r:List Rat):Rat:=r.foldl scF 1
theorem scQ_snoc (r:List Rat) (x:Rat):scQ (r++[x])=scF (scQ r) x:=by rw[scQ,List.foldl_append];rfl
theorem scF_ne {s x:Rat} (h:s≠0):scF s x≠0:=by
 intro e
 rcases Rat.mul_eq_zero.1 e with e|e
 ·exact h e
 ·have:=(s*x).den_pos
  have:((s*x).den:Rat)=((0:Nat):Rat):=e
  have:=Rat.natCast_inj.1 this
  omega
theorem scQ_ne (r:List Rat):scQ r≠0:=by
 have : ∀ (r:List Rat) (s:Rat),s≠0→r.foldl scF s≠0:=by
  intro r
  induction r with
  | nil=>intro s h;exact h
  | cons x r ih=>intro s h;exact ih _ (scF_ne h)
 exact this r 1 (by decide)
def whole (m:List (List Rat)):List (List Rat):=m.map fun r=>r.map (· * scQ r)
theorem whole_scl (m:List (List Rat)):Scl (whole m) m:=⟨by simp [whole],fun i r hr=>⟨scQ r,scQ_ne r,by simp [whole,hr]⟩⟩
theorem whole_len {m:List (List Rat)} {W:Nat} (h : ∀ r∈m,r.length=W) : ∀ r∈whole m,r.length=W:=fun r hr=>by
 obtain ⟨q,hq,rfl⟩:=List.mem_map.1 hr
 simpa using h q hq
def pdQ:List (List Rat)→List Nat→Rat
 | r::m,p::P=>r.getD p 0*pdQ m P
 | _,_=>1
theorem pdQ_nil : ∀ m,pdQ m []=1
 | []=>rfl
 | _::_=>rfl
theorem pdQ_set : ∀ (m:List (List Rat)) (P:List Nat) (i:Nat) (x:List Rat),P.length≤i→pdQ (m.set i x) P=pdQ m P
 | [],_,_,_,_=>rfl
 | _::_,[],_,_,_=>by rw[pdQ_nil,pdQ_nil]
 | r::m,p::P,0,x,h=>by simp at h
 | r::m,p::P,i+1,x,h=>by
  rw[List.set_cons_succ,pdQ,pdQ,pdQ_set m P i x (by simpa using h)]
theorem pdQ_snoc (c:Nat) (t:List Rat) : ∀ (m:List (List Rat)) (P:List Nat),m[P.length]? = some t→pdQ m (P++[c])=pdQ m P*t.getD c 0
 | [],_,h=>by simp at h
 | r::m,[],h=>by
  obtain rfl:r=t:=by simpa using h
  rw[List.nil_append,pdQ,pdQ_nil,pdQ_nil,Rat.mul_one,Rat.one_mul]
 | r::m,p::P,h=>by
  rw[List.cons_append,pdQ,pdQ,pdQ_snoc c t m P (by simpa using h),Rat.mul_assoc]
theorem pdQ_ne : ∀ (m:List (List Rat)) (P:List Nat),(∀ (i p:Nat) (r:List Rat),P[i]? = some p→m[i]? = some r→r.getD p 0≠0)→pdQ m P≠0
 | [],_,_=>by simp only[pdQ];decide
 | _::_,[],_=>by rw[pdQ_nil];decide
 | r::m,p::P,h=>by
  intro e
  rw[pdQ]at e
  rcases Rat.mul_eq_zero.1 e with e|e
  ·exact h 0 p r rfl rfl e
  ·exact pdQ_ne m P (fun i q s h1 h2=>h (i+1) q s (by simpa using h1) (by simpa using h2)) e
structure DetF (n W:Nat) (u:Rat) (D:List (List Rat)→Rat):Prop where
 sw : ∀ (m:List (List Rat)) (i k:Nat) (a b:List Rat),m.length=n→(∀ r∈m,r.length=W)→m[i]? = some a→m[k]? = some b→i≠k→D ((m.set i b).set k a) = -D m
 ad : ∀ (m:List (List Rat)) (i k:Nat) (r t:List Rat) (p f l:Rat),m.length=n→(∀ r∈m,r.length=W)→m[i]? = some r→m[k]? = some t→i≠k→l≠0→D (m.set i (comb p f l r t))=D m*(p/l)
 sc : ∀ (m:List (List Rat)) (i:Nat) (r:List Rat) (s:Rat),m.length=n→(∀ r∈m,r.length=W)→m[i]? = some r→D (m.set i (r.map (· * s)))=D m*s
 tr : ∀ m:List (List Rat),m.length=n→(∀ r∈m,r.length=W)→Tri (atQ m) n→D m=pdQ m (List.range n)*u
def sgB (b:Bool):Rat:=bif b then -1 else 1
theorem sgB_not (b:Bool):sgB (!b) = -sgB b:=by cases b<;>decide
theorem one_powQ : ∀ n:Nat,(1:Rat)^n=1
 | 0=>Rat.pow_zero 1
 | n+1=>by rw[Rat.pow_succ,one_powQ n,Rat.mul_one]
theorem pow_neQ {l:Rat} (h:l≠0) : ∀ n:Nat,l^n≠0
 | 0=>by rw[Rat.pow_zero];decide
 | n+1=>by
  rw[Rat.pow_succ]
  intro e
  rcases Rat.mul_eq_zero.1 e with e|e
  ·exact pow_neQ h n e
  ·exact h e
theorem mul_cancelQ {a b c:Rat} (h:c≠0) (e:a*c=b*c):a=b:=by
 have h1:=Rat.mul_inv_cancel c h
 have:a*c*c⁻¹=b*c*c⁻¹:=by rw[e]
 rwa [Rat.mul_assoc,Rat.mul_assoc,h1,Rat.mul_one,Rat.mul_one]at this
structure Elm (m0:List (List Rat)) (K W cols:Nat) (m:List (List Rat)) (P:List Nat) (c:Nat) (odd:Bool) (l:Rat):Prop where
 ech:Ech m W c P
 len:m.length=m0.length
 cc:c≤cols
 l0:l≠0
 ker : ∀ X,Ker m X↔Ker m0 X
 ms:Ms (6^P.length*K) m
 bl:Bt (6^P.length*K) l
 dt : ∀ (u:Rat) (D:List (List Rat)→Rat),DetF m0.length W u D→D m*l=sgB odd*D m0*pdQ m P*l^(m0.length-P.length)
theorem Elm.start {m0:List (List Rat)} {K W cols:Nat} (h : ∀ r∈m0,r.length=W) (hb:Ms K m0):Elm m0 K W cols m0 [] 0 false 1 :=
 ⟨Ech.start h,rfl,Nat.zero_le _,by decide,fun _=>Iff.rfl,by simpa using hb,Bt.one _,fun u D _=>by rw[pdQ_nil,one_powQ,Rat.mul_one,Rat.mul_one,Rat.mul_one];exact (Rat.one_mul _).symm⟩
section
variable {m0 m:List (List Rat)} {K W cols c:Nat} {P:List Nat} {odd:Bool} {l:Rat}
theorem Elm.skip (h:Elm m0 K W cols m P c odd l) (hc:c<cols) (hz : ∀ (i:Nat) (r:List Rat),P.length≤i→m[i]? = some r→r.getD c 0=0):Elm m0 K W cols m P (c+1) odd l :=
 ⟨h.ech.skip hz,h.len,hc,h.l0,h.ker,h.ms,h.bl,h.dt⟩
theorem Elm.swap {i k:Nat} {a b:List Rat} (h:Elm m0 K W cols m P c odd l) (hi:m[i]? = some a) (hk:m[k]? = some b) (h1:P.length≤i) (h2:P.length≤k) (hn:i≠k):Elm m0 K W cols ((m.set i b).set k a) P c (!odd) l :=
 ⟨h.ech.swap hi hk h1 h2,by simpa using h.len,h.cc,h.l0,fun X=>(ker_swap hi hk X).trans (h.ker X),fun r hr=>by
  rcases mem_set_of hr with rfl|⟨j,_,hj⟩
  ·exact h.ms.at hi
  ·rcases mem_set_of (zM hj) with rfl|⟨q,_,hq⟩
   ·exact h.ms.at hk
   ·exact h.ms.at hq,h.bl,fun u D hD=>by
  rw[hD.sw m i k a b h.len h.ech.lr hi hk hn,sgB_not,pdQ_set _ _ _ _ h2,pdQ_set _ _ _ _ h1,Rat.neg_mul,h.dt u D hD,Rat.neg_mul,Rat.neg_mul,Rat.neg_mul]⟩
structure Swp (m0:List (List Rat)) (K W cols:Nat) (P:List Nat) (c:Nat) (odd:Bool) (l:Rat) (t:List Rat) (m:List (List Rat)) (i:Nat):Prop where
 ech:Ech m W c P
 len:m.length=m0.length
 cc:c<cols
 l0:l≠0
 ker : ∀ X,Ker m X↔Ker m0 X
 ht:m[P.length]? = some t
 nt:t.getD c 0≠0
 lo : ∀ q r,q<i→m[q]? = some r→Bs (5*(6^P.length*K)+1) r
 hi : ∀ q r,i≤q→m[q]? = some r→Bs (6^P.length*K) r
 bt:Bs (6^P.length*K) t
 bl:Bt (6^P.length*K) l
 z : ∀ q r,P.length<q→q<i→m[q]? = some r→r.getD c 0=0
 dt : ∀ (u:Rat) (D:List (List Rat)→Rat),DetF m0.length W u D→D m*l*l^(i-P.length-1)=sgB odd*D m0*pdQ m P*l^(m0.length-P.length)*t.getD c 0^(i-P.length-1)
theorem Elm.swp {t:List Rat} (h:Elm m0 K W cols m P c odd l) (hc:c<cols) (ht:m[P.length]? = some t) (hn:t.getD c 0≠0):Swp m0 K W cols P c odd l t m (P.length+1) :=
 ⟨h.ech,h.len,hc,h.l0,h.ker,ht,hn,fun q r _ hr=>(h.ms.at hr).le (by omega),fun q r _ hr=>h.ms.at hr,h.ms.at ht,h.bl,fun q r h1 h2 _=>absurd h1 (by omega),fun u D hD=>by
  rw[show P.length+1-P.length-1=0 by omega,Rat.pow_zero,Rat.pow_zero,Rat.mul_one,Rat.mul_one]
  exact h.dt u D hD⟩
theorem Swp.step {t r:List Rat} {i:Nat} (h:Swp m0 K W cols P c odd l t m i) (hi:P.length<i) (hr:m[i]? = some r):Swp m0 K W cols P c odd l t (m.set i (comb (t.getD c 0) (r.getD c 0) l r t)) (i+1):=by
 have hil:=(zS hr).1
 have hl:r.length=t.length:=by rw[h.ech.lr r (zM hr),h.ech.lr t (zM h.ht)]
 have hg : ∀ j,(comb (t.getD c 0) (r.getD c 0) l r t).getD j 0=(r.getD j 0*t.getD c 0-t.getD j 0*r.getD c 0)/l:=comb_getD hl
 have hat : ∀ (q:Nat) (x:List Rat),(m.set i (comb (t.getD c 0) (r.getD c 0) l r t))[q]? = some x→(q=i∧x=comb (t.getD c 0) (r.getD c 0) l r t)∨(q≠i∧m[q]? = some x):=fun q x hx=>by
  rw[List.getElem?_set]at hx
  by_cases e:i=q
  ·rw[if_pos e,if_pos hil]at hx
   exact Or.inl ⟨e.symm,(Option.some.inj hx).symm⟩
  ·rw[if_neg e]at hx
   exact Or.inr ⟨Ne.symm e,hx⟩
 have hbr:=h.hi i r (Nat.le_refl i) hr
 have htc:Bt (6^P.length*K) (t.getD c 0):=by
  have:Ms (6^P.length*K) [t]:=fun x hx=>by obtain rfl:=List.mem_singleton.1 hx;exact h.bt
  exact this.getD 0 c
 have hrc:Bt (6^P.length*K) (r.getD c 0):=by
  have:Ms (6^P.length*K) [r]:=fun x hx=>by obtain rfl:=List.mem_singleton.1 hx;exact hbr
  exact this.getD 0 c
 have hz0 : ∀ j,j≤c→(comb (t.getD c 0) (r.getD c 0) l r t).getD j 0=0:=fun j hj=>by
  rw[hg]
  by_cases e:j=c
  ·subst e;rw[Rat.div_def];grind
  ·rw[h.ech.zr i r (by omega) hr j (by omega),h.ech.zr P.length t (Nat.le_refl _) h.ht j (by omega),Rat.div_def];grind
 refine ⟨⟨fun x hx => ?_,by simpa using h.ech.pl,h.ech.inc,h.ech.pb,fun q p x hp hx => ?_,fun q x hq hx j hj => ?_⟩,by simpa using h.len,h.cc,h.l0,fun X=>(ker_sweep hr h.ht (by omega) hl h.nt h.l0 X).trans (h.ker X),?_,h.nt,fun q x hq hx => ?_,fun q x hq hx => ?_,h.bt,h.bl,fun q x h1 h2 hx => ?_,fun u D hD => ?_⟩
 ·rcases mem_set_of hx with rfl|⟨j,_,hj⟩
  ·rw[comb_len hl];exact h.ech.lr r (zM hr)
  ·exact h.ech.lr x (zM hj)
 ·have hql:=(zS hp).1
  rcases hat q x hx with ⟨rfl,_⟩|⟨_,hx⟩
  ·omega
  ·exact h.ech.nz q p x hp hx
 ·rcases hat q x hx with ⟨rfl,rfl⟩|⟨_,hx⟩
  ·exact hz0 j (by omega)
  ·exact h.ech.zr q x hq hx j hj
 ·rw[List.getElem?_set,if_neg (by omega)];exact h.ht
 ·rcases hat q x hx with ⟨rfl,rfl⟩|⟨hne,hx⟩
  ·exact hbr.comb h.bt htc hrc h.bl
  ·exact h.lo q x (by omega) hx
 ·rcases hat q x hx with ⟨rfl,rfl⟩|⟨hne,hx⟩
  ·omega
  ·exact h.hi q x (by omega) hx
 ·rcases hat q x hx with ⟨rfl,rfl⟩|⟨hne,hx⟩
  ·exact hz0 c (Nat.le_refl c)
  ·exact h.z q x h1 (by omega) hx
 ·have hd:=h.dt u D hD
  have hdl:=Rat.div_mul_cancel h.l0 (a:=t.getD c 0)
  rw[hD.ad m i P.length r t _ _ l h.len h.ech.lr hr h.ht (by omega) h.l0,pdQ_set _ _ _ _ (by omega),show i+1-P.length-1=(i-P.length-1)+1 by omega,Rat.pow_succ,Rat.pow_succ]
  rw[show D m*(t.getD c 0/l)*l*(l^(i-P.length-1)*l)=D m*l*l^(i-P.length-1)*(t.getD c 0/l*l) by grind,hd,hdl,Rat.mul_assoc]
theorem pow6 (hK:1≤K) (p:Nat):5*(6^p*K)+1≤6^(p+1)*K:=by
 have h1:1≤6^p*K:=Nat.mul_pos (Nat.pow_pos (by omega)) hK
 have e:6^(p+1)*K=6*(6^p*K):=by rw[Nat.pow_succ,Nat.mul_comm (6^p) 6,Nat.mul_assoc]
 omega
theorem pow6le {p n B:Nat} (h:6^n*K≤B) (hp:p≤n):6^p*K≤B :=
 Nat.le_trans (Nat.mul_le_mul_right K (Nat.pow_le_pow_right (by omega) hp)) h
theorem Swp.done {t:List Rat} {i:Nat} (hK:1≤K) (h:Swp m0 K W cols P c odd l t m i) (hi:i=m.length):Elm m0 K W cols m (P++[c]) (c+1) odd (t.getD c 0):=by
 have e:(P++[c]).length=P.length+1:=by simp
 have h6:=pow6 hK P.length
 refine ⟨h.ech.pivot h.ht h.nt fun q r hq hr=>h.z q r hq (hi ▸ (zS hr).1) hr,h.len,h.cc,h.nt,h.ker,?_,?_,fun u D hD => ?_⟩
 ·rw[e]
  intro r hr
  obtain ⟨q,hq⟩:=List.getElem?_of_mem hr
  exact (h.lo q r (hi ▸ (zS hq).1) hq).le h6
 ·rw[e]
  have:Ms (6^P.length*K) [t]:=fun x hx=>by obtain rfl:=List.mem_singleton.1 hx;exact h.bt
  exact (this.getD 0 c).le (by omega)
 ·have hd:=h.dt u D hD
  have hpl:=(zS h.ht).1
  have hlen:=h.len
  rw[pdQ_snoc c t m P h.ht,e]
  rw[hi,hlen,show m0.length-P.length=(m0.length-P.length-1)+1 by omega,Rat.pow_succ,Nat.add_sub_cancel]at hd
  rw[show m0.length-(P.length+1)=m0.length-P.length-1 by omega]
  have hp:=pow_neQ h.l0 (m0.length-P.length-1)
  generalize l^(m0.length-P.length-1)=x at *
  generalize t.getD c 0=p at *
  generalize p^(m0.length-P.length-1)=y at *
  have h0:=h.l0
  have h1:D m=sgB odd*D m0*pdQ m P*y:=mul_cancelQ (c:=l*x) (fun e=>by
   rcases Rat.mul_eq_zero.1 e with e|e
   ·exact h0 e
   ·exact hp e) (by grind)
  rw[h1];grind
theorem Elm.det {n:Nat} {u:Rat} {D:List (List Rat)→Rat} (h:Elm m0 K n n m P c odd l) (hml:m0.length=n) (hP:P.length=n) (hD:DetF n n u D):u*l=sgB odd*D m0:=by
 subst hml
 have hc:c=m0.length:=by have:=h.ech.le;have:=h.cc;omega
 have hd:=h.dt u D hD
 have hlen:=h.len
 subst hc
 have hPr:P=List.range m0.length:=by
  refine List.ext_getElem? fun i => ?_
  by_cases hi:i<m0.length
  ·obtain ⟨q,hq⟩ : ∃ q,P[i]? = some q:=⟨_,zE (by omega)⟩
   rw[hq,List.getElem?_range hi,h.ech.diag hP i q hq]
  ·rw[List.getElem?_eq_none (by omega),List.getElem?_eq_none (by simp;omega)]
 have hnz:pdQ m P≠0:=pdQ_ne m P fun i p r h1 h2=>(h.ech.nz i p r h1 h2).1
 have ht:=hD.tr m hlen h.ech.lr (h.ech.tri fun i hi=>by rw[hPr,List.getElem?_range hi])
 rw[hP,Nat.sub_self,Rat.pow_zero,Rat.mul_one,ht,←hPr]at hd
 exact mul_cancelQ hnz (by grind)
end
def bsQ (c:Nat) (l:Rat):List (List Rat)→Nat→List Rat
 | [],_=>[]
 | r::m,i=>(r.getD c 0*l-dotQ (r.drop (i+1)) (bsQ c l m (i+1)))/r.getD i 0::bsQ c l m (i+1)
theorem bsQ_len (c:Nat) (l:Rat) : ∀ (m:List (List Rat)) (i:Nat),(bsQ c l m i).length=m.length
 | [],_=>rfl
 | r::m,i=>by rw[bsQ,List.length_cons,bsQ_len c l m (i+1),List.length_cons]
theorem drop_getD (r:List Rat) (i:Nat) (h:i<r.length):r.drop i=r.getD i 0::r.drop (i+1):=by
 rw[List.drop_eq_getElem_cons h,List.getD_eq_getElem?_getD,zE h];rfl
theorem bsQ_row (c:Nat) (l:Rat) : ∀ (m:List (List Rat)) (i k:Nat) (r:List Rat),m[k]? = some r→i+k<r.length→r.getD (i+k) 0≠0→dotQ (r.drop (i+k)) ((bsQ c l m i).drop k)=r.getD c 0*l
 | q::m,i,0,r,h,hl,h0=>by
  obtain rfl:q=r:=by simpa using h
  rw[Nat.add_zero]at hl h0 ⊢
  rw[drop_getD q i hl,bsQ,List.drop_zero,dotQ]
  have:=Rat.div_mul_cancel h0 (a:=q.getD c 0*l-dotQ (q.drop (i+1)) (bsQ c l m (i+1)))
  grind
 | q::m,i,k+1,r,h,hl,h0=>by
  rw[bsQ,List.drop_succ_cons,show i+(k+1)=i+1+k by omega]
  exact bsQ_row c l m (i+1) k r (by simpa using h) (by omega) (by rw[show i+1+k=i+(k+1) by omega];exact h0)
 | [],_,_,_,h,_,_=>by simp at h
theorem dotQ_dropz : ∀ (i:Nat) (r x:List Rat),(∀ j,j<i→r.getD j 0=0)→dotQ r x=dotQ (r.drop i) (x.drop i)
 | 0,_,_,_=>rfl
 | i+1,[],x,_=>by simp [dotQ]
 | i+1,r::rs,[],_=>by rw[dotQ_nil,List.drop_nil,dotQ_nil]
 | i+1,r::rs,x::xs,h=>by
  have h0:r=0:=by simpa using h 0 (by omega)
  rw[dotQ,h0,Rat.zero_mul,Rat.zero_add,List.drop_succ_cons,List.drop_succ_cons]
  exact dotQ_dropz i rs xs fun j hj=>by simpa using h (j+1) (by omega)
theorem bs_sol {c n:Nat} {l:Rat} {m:List (List Rat)} (hn : ∀ r∈m,n≤r.length) (hm:m.length=n) (ht:Tri (atQ m) n) (r:List Rat) (hr:r∈m):dotQ r (bsQ c l m 0)=r.getD c 0*l:=by
 obtain ⟨k,hk⟩:=List.getElem?_of_mem hr
 have hkl:=(zS hk).1
 have h1:=ht k (by omega)
 have h2:=bsQ_row c l m 0 k r hk (by have:=hn r hr;omega) (by rw[Nat.zero_add,←atQ_eq hk];exact h1.1)
 rw[dotQ_dropz k r _ fun j hj=>by rw[←atQ_eq hk];exact h1.2 j hj,←h2,Nat.zero_add]
def clB (S n:Nat):Nat→Nat
 | 0=>0
 | t+1=>3*S+n*(S+clB S n t+1)
theorem clB_mono (S n:Nat) : ∀ t,clB S n t≤clB S n (t+1)
 | 0=>Nat.zero_le _
 | t+1=>by
  rw[clB,clB]
  have:=Nat.mul_le_mul_left n (show S+clB S n t+1≤S+clB S n (t+1)+1 by have:=clB_mono S n t;omega)
  omega
theorem clB_le (S n:Nat) {t u:Nat} (h:t≤u):clB S n t≤clB S n u:=by
 obtain ⟨d,rfl⟩:=Nat.exists_eq_add_of_le h
 induction d with
 | zero=>exact Nat.le_refl _
 | succ d ih=>exact Nat.le_trans (ih (by omega)) (clB_mono S n (t+d))
theorem dot_bt {k l:Nat} {a b:List Rat} (ha:Bs k a) (hb:Bs l b) {n:Nat} (hn:b.length≤n):Bt (n*(k+l+1)) (dotQ a b):=by
 rw[dotQ_comm]
 exact (hb.dot ha).le (Nat.le_trans (Nat.mul_le_mul_right _ hn) (Nat.le_of_eq (by rw[Nat.add_comm l k])))
theorem bsQ_bs {S n c:Nat} {l:Rat} (hl:Bt S l) : ∀ (m:List (List Rat)) (i:Nat),m.length≤n→Ms S m→Bs (clB S n m.length) (bsQ c l m i)
 | [],_,_,_=>fun x hx=>by cases hx
 | r::m,i,hn,hm=>by
  have ih:=bsQ_bs (c:=c) (n:=n) hl m (i+1) (by rw[List.length_cons]at hn;omega) (fun q hq=>hm q (List.mem_cons_of_mem _ hq))
  have hr:Bs S r:=hm r List.mem_cons_self
  have hg : ∀ j,Bt S (r.getD j 0):=fun j=>by
   have:Ms S [r]:=fun x hx=>by obtain rfl:=List.mem_singleton.1 hx;exact hr
   exact this.getD 0 j
  have h1:=dot_bt (k:=S) (a:=r.drop (i+1)) (fun x hx=>hr x (List.mem_of_mem_drop hx)) ih (n:=n-1) (by rw[bsQ_len];rw[List.length_cons]at hn;omega)
  have h2:=(((hg c).mul hl).subL h1).divL (hg i)
  rw[List.length_cons]
  intro x hx
  rw[bsQ]at hx
  rcases List.mem_cons.1 hx with rfl|hx
  ·refine h2.le ?_
   rw[clB]
   obtain ⟨k,rfl⟩ : ∃ k,n=k+1:=⟨n-1,by rw[List.length_cons]at hn;omega⟩
   have e:=Nat.succ_mul k (S+clB S (k+1) m.length+1)
   rw[Nat.succ_eq_add_one]at e
   rw[Nat.add_sub_cancel]
   omega
  ·exact (ih x hx).le (clB_mono S n m.length)
end Go.Eng

namespace Go.Eng
theorem Ech.pw {m:List (List Rat)} {W c:Nat} {P:List Nat} (h:Ech m W c P):P.Pairwise (· < ·):=by
 rw[List.pairwise_iff_getElem]
 intro i j hi hj hij
 exact h.inc i j _ _ hij (zE hi) (zE hj)
theorem Swp.all {m0:List (List Rat)} {K W cols c:Nat} {P:List Nat} {odd:Bool} {l:Rat} {t:List Rat} : ∀ (d i:Nat) (m:List (List Rat)),P.length<i→i+d=m0.length→Swp m0 K W cols P c odd l t m i → ∃ m',Swp m0 K W cols P c odd l t m' m0.length
 | 0,i,m,_,hd,h=>by
  obtain rfl:i=m0.length:=by omega
  exact ⟨m,h⟩
 | d+1,i,m,hi,hd,h=>by
  obtain ⟨r,hr⟩ : ∃ r,m[i]? = some r:=⟨_,zE (by have:=h.len;omega)⟩
  exact Swp.all d (i+1) _ (by omega) (by omega) (h.step hi hr)
theorem Elm.all {m0:List (List Rat)} {K W:Nat} (hK:1≤K) : ∀ (d c:Nat) (m:List (List Rat)) (P:List Nat) (odd:Bool) (l:Rat),c+d=W→Elm m0 K W W m P c odd l → ∃ m' P' odd' l',Elm m0 K W W m' P' W odd' l'
 | 0,c,m,P,odd,l,hd,h=>by
  obtain rfl:c=W:=by omega
  exact ⟨m,P,odd,l,h⟩
 | d+1,c,m,P,odd,l,hd,h=>by
  have piv : ∀ (m:List (List Rat)) (odd:Bool) (t:List Rat),Elm m0 K W W m P c odd l→m[P.length]? = some t→t.getD c 0≠0 → ∃ m' P' odd' l',Elm m0 K W W m' P' W odd' l':=by
   intro m odd t h ht hn
   have hpl:=(zS ht).1
   have hlen:=h.len
   obtain ⟨m',hs⟩:=Swp.all (m0.length-(P.length+1)) (P.length+1) m (by omega) (by omega) (h.swp (by omega) ht hn)
   exact Elm.all hK d (c+1) _ _ _ _ (by omega) (hs.done hK hs.len.symm)
  by_cases hz : ∀ (i:Nat) (r:List Rat),P.length≤i→m[i]? = some r→r.getD c 0=0
  ·exact Elm.all hK d (c+1) m P odd l (by omega) (h.skip (by omega) hz)
  ·obtain ⟨i,r,hi,hr,hne⟩ : ∃ (i:Nat) (r:List Rat),P.length≤i∧m[i]? = some r∧r.getD c 0≠0:=Classical.byContradiction fun hno=>hz fun i r hi hr=>Classical.byContradiction fun hne=>hno ⟨i,r,hi,hr,hne⟩
   have hil:=(zS hr).1
   by_cases e:i=P.length
   ·subst e
    exact piv m odd r h hr hne
   ·obtain ⟨t,ht⟩ : ∃ t,m[P.length]? = some t:=⟨_,zE (by omega)⟩
    exact piv _ (!odd) r (h.swap hr ht hi (Nat.le_refl _) e) (by rw[List.getElem?_set,if_pos rfl,if_pos (by rw[List.length_set];omega)]) hne
end Go.Eng

namespace Go.Eng
def evQ:List Rat→Rat→Rat
 | [],_=>0
 | c::p,x=>c+x*evQ p x
def synQ (r:Rat):List Rat→List Rat
 | []=>[]
 | _::p=>List.zipWith (· + ·) p ((synQ r p).map (r * ·)++[0])
theorem synQ_len (r:Rat) : ∀ c:List Rat,(synQ r c).length=c.length-1
 | []=>rfl
 | _::p=>by
  rw[synQ,List.length_zipWith,List.length_append,List.length_map,synQ_len r p,List.length_singleton,List.length_cons]
  omega
theorem evQ_add : ∀ (a b:List Rat) (x:Rat),a.length=b.length→evQ (List.zipWith (· + ·) a b) x=evQ a x+evQ b x
 | [],[],x,_=>by simp only[List.zipWith_nil_right,evQ];grind
 | u::a,v::b,x,h=>by
  simp only[List.zipWith_cons_cons,evQ,evQ_add a b x (by simpa using h)];grind
theorem evQ_mul (r x:Rat) : ∀ p:List Rat,evQ (p.map (r * ·)) x=r*evQ p x
 | []=>by simp only[List.map_nil,evQ];grind
 | c::p=>by simp only[List.map_cons,evQ,evQ_mul r x p];grind
theorem evQ_zero (x:Rat) : ∀ p:List Rat,evQ (p++[0]) x=evQ p x
 | []=>by simp only[List.nil_append,evQ];grind
 | c::p=>by simp only[List.cons_append,evQ,evQ_zero x p]
theorem evQ_zeros {p:List Rat} (h : ∀ z∈p,z=0) (x:Rat):evQ p x=0:=by
 induction p with
 | nil=>rfl
 | cons c p ih=>rw[evQ,ih fun z hz=>h z (List.mem_cons_of_mem _ hz),h c List.mem_cons_self];grind
theorem synQ_ev (r x:Rat) : ∀ c:List Rat,evQ c x-evQ c r=(x-r)*evQ (synQ r c) x
 | []=>by simp only[synQ,evQ];grind
 | c::[]=>by simp only[synQ,evQ,List.zipWith_nil_left];grind
 | c::d::p=>by
  have ih:=synQ_ev r x (d::p)
  have hl:(d::p).length=((synQ r (d::p)).map (r * ·)++[0]).length:=by
   rw[List.length_append,List.length_map,synQ_len,List.length_singleton,List.length_cons];omega
  have e1 : ∀ x,evQ (c::d::p) x=c+x*evQ (d::p) x:=fun _=>rfl
  rw[synQ,evQ_add _ _ _ hl,evQ_zero,evQ_mul,e1,e1]
  generalize evQ (d::p) x=u at *
  generalize evQ (d::p) r=v at *
  generalize evQ (synQ r (d::p)) x=s at *
  grind
theorem roots_zero : ∀ (n:Nat) (c:List Rat),c.length=n → ∀ X:List Rat,X.Pairwise (· ≠ ·)→n≤X.length→(∀ x∈X,evQ c x=0) → ∀ z∈c,z=0
 | 0,c,hc,_,_,_,_=>by
  rw[List.length_eq_zero_iff.1 hc]
  intro z hz;cases hz
 | n+1,[],hc,_,_,_,_=>by simp at hc
 | n+1,c::p,hc,[],_,hl,_=>by simp at hl
 | n+1,c::p,hc,r::X,hX,hl,h=>by
  have hp:p.length=n:=by simpa using hc
  rw[List.pairwise_cons]at hX
  have hr:=h r List.mem_cons_self
  have hq : ∀ z∈synQ r (c::p),z=0:=by
   refine roots_zero n _ (by rw[synQ_len];exact hp) X hX.2 (by simpa using hl) fun x hx => ?_
   have e:=synQ_ev r x (c::p)
   rw[h x (List.mem_cons_of_mem _ hx),hr]at e
   have h0:(x-r)*evQ (synQ r (c::p)) x=0:=by grind
   rcases Rat.mul_eq_zero.1 h0 with h1|h1
   ·exact absurd (show r=x by grind) (hX.1 x hx)
   ·exact h1
  have hall : ∀ x,evQ (c::p) x=0:=fun x=>by
   have e:=synQ_ev r x (c::p)
   rw[evQ_zeros hq,hr]at e
   grind
  have hc0:c=0:=by
   have:=hall 0
   rw[evQ]at this
   grind
  have hpz : ∀ z∈p,z=0:=by
   refine roots_zero n p hp ((List.range n).map fun i:Nat=>(((i:Nat)+1:Nat):Rat)) ?_ (by simp) fun x hx => ?_
   ·rw[List.pairwise_map]
    refine List.Pairwise.imp ?_ List.nodup_range
    intro i j hij e
    have:=Rat.natCast_inj.1 e
    omega
   ·obtain ⟨i,_,rfl⟩:=List.mem_map.1 hx
    have e:=hall (((i+1:Nat)):Rat)
    rw[evQ,hc0,Rat.zero_add]at e
    rcases Rat.mul_eq_zero.1 e with h1|h1
    ·have:(((i+1:Nat)):Rat)=((0:Nat):Rat):=h1
     have:=Rat.natCast_inj.1 this
     omega
    ·exact h1
  intro z hz
  rcases List.mem_cons.1 hz with rfl|hz
  ·exact hc0
  ·exact hpz z hz
structure Pt where
 x:Rat
 y:Rat
 w:Rat
def sumP (g:List Pt) (f:Pt→Rat):Rat:=g.foldl (fun s p=>s+f p) 0
theorem sumP_acc (f:Pt→Rat) : ∀ (g:List Pt) (s:Rat),g.foldl (fun s p=>s+f p) s=s+sumP g f
 | [],s=>by simp only[sumP,List.foldl_nil];grind
 | p::g,s=>by
  have h1:=sumP_acc f g (s+f p)
  have h2:=sumP_acc f g (0+f p)
  simp only[sumP,List.foldl_cons]at h1 h2 ⊢
  rw[h1,h2];grind
theorem sumP_cons (p:Pt) (g:List Pt) (f:Pt→Rat):sumP (p::g) f=f p+sumP g f:=by
 have:=sumP_acc f g (0+f p)
 simp only[sumP,List.foldl_cons]at this ⊢
 rw[this];grind
theorem sumP_snoc (p:Pt) (g:List Pt) (f:Pt→Rat):sumP (g++[p]) f=sumP g f+f p:=by rw[sumP,List.foldl_append];rfl
theorem sumP_congr {g:List Pt} {f h:Pt→Rat} (e : ∀ p∈g,f p=h p):sumP g f=sumP g h:=by
 induction g with
 | nil=>rfl
 | cons p g ih=>rw[sumP_cons,sumP_cons,e p List.mem_cons_self,ih fun q hq=>e q (List.mem_cons_of_mem _ hq)]
theorem sumP_add (f h:Pt→Rat) : ∀ g:List Pt,sumP g (fun p=>f p+h p)=sumP g f+sumP g h
 | []=>by simp only[sumP,List.foldl_nil];grind
 | p::g=>by rw[sumP_cons,sumP_cons,sumP_cons,sumP_add f h g];grind
theorem sumP_mul (r:Rat) (f:Pt→Rat) : ∀ g:List Pt,sumP g (fun p=>r*f p)=r*sumP g f
 | []=>by simp only[sumP,List.foldl_nil];grind
 | p::g=>by rw[sumP_cons,sumP_cons,sumP_mul r f g];grind
theorem sumP_zero (g:List Pt):sumP g (fun _=>0)=0:=by
 induction g with
 | nil=>rfl
 | cons p g ih=>rw[sumP_cons,ih];grind
theorem sq_nonneg (x:Rat):0≤x*x:=by
 rcases Rat.le_total (a:=0) (b:=x) with h|h
 ·exact Rat.mul_nonneg h h
 ·have:=Rat.mul_nonneg (show 0 ≤ -x by grind) (show 0 ≤ -x by grind)
  grind
theorem sumP_nonneg {f:Pt→Rat} : ∀ {g:List Pt},(∀ p∈g,0≤f p)→0≤sumP g f
 | [],_=>by simp only[sumP,List.foldl_nil];grind
 | p::g,h=>by
  rw[sumP_cons]
  have h1:=h p List.mem_cons_self
  have h2:=sumP_nonneg (g:=g) fun q hq=>h q (List.mem_cons_of_mem _ hq)
  grind
theorem sumP_pos_zero {f:Pt→Rat} : ∀ {g:List Pt},(∀ p∈g,0≤f p)→sumP g f=0 → ∀ p∈g,f p=0
 | [],_,_,p,hp=>by cases hp
 | q::g,h,h0,p,hp=>by
  rw[sumP_cons]at h0
  have h1:=h q List.mem_cons_self
  have h2:=sumP_nonneg (g:=g) fun q hq=>h q (List.mem_cons_of_mem _ hq)
  rcases List.mem_cons.1 hp with rfl|hp
  ·grind
  ·exact sumP_pos_zero (fun q hq=>h q (List.mem_cons_of_mem _ hq)) (by grind) p hp
def mom (g:List Pt) (k:Nat):Rat:=sumP g fun p=>p.w*p.x^k
def rhs (g:List Pt) (k:Nat):Rat:=sumP g fun p=>p.w*p.x^k*p.y
def gramL (g:List Pt) (n:Nat):List (List Rat):=(List.range n).map fun i=>(List.range n).map fun j=>mom g (i+j)
def rhsL (g:List Pt) (n:Nat):List Rat:=(List.range n).map (rhs g)
theorem gram_len (g:List Pt) (n:Nat):(gramL g n).length=n:=by simp [gramL]
theorem gram_w (g:List Pt) (n:Nat) : ∀ r∈gramL g n,r.length=n:=fun r hr=>by
 obtain ⟨i,_,rfl⟩:=List.mem_map.1 hr
 simp
theorem mom_dotA (g:List Pt) : ∀ (c:List Rat) (i:Nat),dotQ ((List.range' i c.length).map fun j=>mom g j) c=sumP g fun p=>p.w*p.x^i*evQ c p.x
 | [],i=>by
  rw[sumP_congr (h:=fun _=>0) fun p _=>by simp only[evQ];grind,sumP_zero];rfl
 | z::c,i=>by
  simp only[List.length_cons,List.range'_succ,List.map_cons,dotQ]
  rw[mom_dotA g c (i+1),mom,Rat.mul_comm,←sumP_mul,←sumP_add]
  refine sumP_congr fun p _ => ?_
  rw[evQ,Rat.pow_succ];grind
theorem mom_dot (g:List Pt) (c:List Rat) {n:Nat} (hc:c.length=n) (i:Nat):dotQ ((List.range n).map fun j=>mom g (i+j)) c=sumP g fun p=>p.w*p.x^i*evQ c p.x:=by
 subst hc
 have e:List.range' i c.length=(List.range c.length).map (i + ·):=by rw[List.range_eq_range',List.map_add_range',Nat.add_zero]
 rw[←mom_dotA g c i,e,List.map_map]
 rfl
def Orth (g:List Pt) (n:Nat) (c:List Rat):Prop := ∀ k,k<n→sumP g (fun p=>p.w*p.x^k*(evQ c p.x-p.y))=0
theorem orth_of {g:List Pt} {n:Nat} {c:List Rat} (hc:c.length=n) (h : ∀ (i:Nat) (r:List Rat) (s:Rat),(gramL g n)[i]? = some r→(rhsL g n)[i]? = some s→dotQ r c=s):Orth g n c:=fun k hk=>by
 have h1:=h k ((List.range n).map fun j=>mom g (k+j)) (rhs g k) (by simp [gramL,hk]) (by simp [rhsL,hk])
 rw[mom_dot g c hc,rhs]at h1
 rw[sumP_congr (h:=fun p=>p.w*p.x^k*evQ c p.x+(-1)*(p.w*p.x^k*p.y)) fun p _=>by grind,sumP_add,sumP_mul,h1]
 grind
theorem orth_all {g:List Pt} (e:Pt→Rat) : ∀ (q:List Rat) (i n:Nat),(∀ k,k<n→sumP g (fun p=>p.w*p.x^k*e p)=0)→i+q.length≤n→sumP g (fun p=>p.w*p.x^i*e p*evQ q p.x)=0
 | [],i,n,_,_=>by
  rw[sumP_congr (h:=fun _=>0) fun p _=>by simp only[evQ];grind,sumP_zero]
 | z::q,i,n,h,hl=>by
  rw[List.length_cons]at hl
  rw[sumP_congr (h:=fun p=>z*(p.w*p.x^i*e p)+p.w*p.x^(i+1)*e p*evQ q p.x) fun p _=>by rw[evQ,Rat.pow_succ];grind,sumP_add,sumP_mul,h i (by omega),orth_all e q (i+1) n h (by omega)]
  grind
theorem Orth.all {g:List Pt} {n:Nat} {c q:List Rat} (h:Orth g n c) (hq:q.length≤n):sumP g (fun p=>p.w*(evQ c p.x-p.y)*evQ q p.x)=0:=by
 have:=orth_all (g:=g) (fun p=>evQ c p.x-p.y) q 0 n h (by omega)
 rw[←this]
 exact sumP_congr fun p _=>by rw[Rat.pow_zero];grind
structure GridOk (g:List Pt):Prop where
 ne:(g.map (·.x)).Pairwise (· ≠ ·)
 pos : ∀ p∈g,0<p.w
theorem grid_zero {g:List Pt} (hg:GridOk g) {c:List Rat} (hl:c.length≤g.length) (h:sumP g (fun p=>p.w*(evQ c p.x*evQ c p.x))=0) : ∀ z∈c,z=0:=by
 have hz:=sumP_pos_zero (fun p hp=>Rat.mul_nonneg (Rat.le_of_lt (hg.pos p hp)) (sq_nonneg _)) h
 refine roots_zero c.length c rfl (g.map (·.x)) hg.ne (by simpa using hl) fun x hx => ?_
 obtain ⟨p,hp,rfl⟩:=List.mem_map.1 hx
 have h1:=hz p hp
 have hw:=hg.pos p hp
 rcases Rat.mul_eq_zero.1 h1 with h2|h2
 ·rw[h2]at hw;exact absurd hw (by decide)
 ·rcases Rat.mul_eq_zero.1 h2 with h3|h3<;>exact h3
theorem gram_ns {g:List Pt} {n:Nat} (hg:GridOk g) (hn:n≤g.length):NS n (gramL g n):=fun X hX hk=>by
 have h0 : ∀ k,k<n→sumP g (fun p=>p.w*p.x^k*evQ X p.x)=0:=fun k hk2=>by
  rw[←mom_dot g X hX k]
  exact hk _ (List.mem_map.2 ⟨k,List.mem_range.2 hk2,rfl⟩)
 have h1:=orth_all (g:=g) (fun p=>evQ X p.x) X 0 n h0 (by omega)
 have h2:=grid_zero hg (c:=X) (by omega) (by
  rw[←h1]
  exact sumP_congr fun p _=>by rw[Rat.pow_zero];grind)
 intro j
 rw[List.getD_eq_getElem?_getD]
 cases hj:X[j]? with
 | none=>rfl
 | some z=>exact h2 z (zM hj)
def errP (g:List Pt) (c:List Rat):Rat:=sumP g fun p=>p.w*((evQ c p.x-p.y)*(evQ c p.x-p.y))
theorem err_plus {g:List Pt} {n:Nat} {c q s:List Rat} (h:Orth g n c) (hq:q.length≤n) (hs : ∀ x,evQ s x=evQ c x+evQ q x):errP g s=errP g c+sumP g fun p=>p.w*(evQ q p.x*evQ q p.x):=by
 have h1:=h.all hq
 rw[errP,sumP_congr (h:=fun p=>p.w*((evQ c p.x-p.y)*(evQ c p.x-p.y))+(p.w*(evQ q p.x*evQ q p.x)+2*(p.w*(evQ c p.x-p.y)*evQ q p.x))) fun p _=>by rw[hs];grind,sumP_add,sumP_add,sumP_mul,h1,errP]
 grind
end Go.Eng

namespace Go.Eng
def Wh (k:Nat) (x:Rat):Prop := ∃ z:Int,x=(z:Rat)∧z.natAbs≤2^k
theorem Wh.le {k l:Nat} {x:Rat} (h:Wh k x) (hl:k≤l):Wh l x:=by
 obtain ⟨z,e,b⟩:=h
 exact ⟨z,e,Nat.le_trans b (Nat.pow_le_pow_right (by omega) hl)⟩
theorem Wh.mul {k l:Nat} {x y:Rat} (hx:Wh k x) (hy:Wh l y):Wh (k+l) (x*y):=by
 obtain ⟨z,rfl,b⟩:=hx
 obtain ⟨u,rfl,c⟩:=hy
 exact ⟨z*u,by rw[Rat.intCast_mul],by rw[Int.natAbs_mul,Nat.pow_add];exact Nat.mul_le_mul b c⟩
theorem Wh.add {k:Nat} {x y:Rat} (hx:Wh k x) (hy:Wh k y):Wh (k+1) (x+y):=by
 obtain ⟨z,rfl,b⟩:=hx
 obtain ⟨u,rfl,c⟩:=hy
 refine ⟨z+u,by rw[Rat.intCast_add],?_⟩
 rw[Nat.pow_succ]
 have:=Int.natAbs_add_le z u
 omega
theorem Wh.neg {k:Nat} {x:Rat} (hx:Wh k x):Wh k (-x):=by
 obtain ⟨z,rfl,b⟩:=hx
 exact ⟨-z,by rw[Rat.intCast_neg],by rw[Int.natAbs_neg];exact b⟩
theorem Wh.sub {k:Nat} {x y:Rat} (hx:Wh k x) (hy:Wh k y):Wh (k+1) (x-y):=by
 rw[Rat.sub_eq_add_neg]
 exact hx.add hy.neg
theorem Wh.zero (k:Nat):Wh k 0:=⟨0,rfl,Nat.zero_le _⟩
theorem Wh.one (k:Nat):Wh k 1:=⟨1,rfl,Nat.one_le_two_pow⟩
theorem Wh.bt {k:Nat} {x:Rat} (h:Wh k x):Bt k x:=by
 obtain ⟨z,rfl,b⟩:=h
 exact Bt.ofInt b
theorem Wh.pow {k:Nat} {x:Rat} (h:Wh k x) : ∀ n:Nat,Wh (n*k) (x^n)
 | 0=>by rw[Rat.pow_zero];exact Wh.one _
 | n+1=>by rw[Rat.pow_succ,Nat.succ_mul];exact (Wh.pow h n).mul h
theorem Wh.dot {k l:Nat} : ∀ {a b:List Rat},(∀ x∈a,Wh k x)→(∀ x∈b,Wh l x)→Wh (k+l+a.length) (dotQ a b)
 | [],b,_,_=>by cases b<;>exact Wh.zero _
 | x::a,[],_,_=>Wh.zero _
 | x::a,y::b,ha,hb=>by
  rw[dotQ,List.length_cons,←Nat.add_assoc]
  exact (((ha x List.mem_cons_self).mul (hb y List.mem_cons_self)).le (by omega)).add (Wh.dot (fun z hz=>ha z (List.mem_cons_of_mem _ hz)) fun z hz=>hb z (List.mem_cons_of_mem _ hz))
theorem mul_denQ (y:Rat):y*(y.den:Rat)=(y.num:Rat):=by
 have h:=Rat.num_divInt_den y
 rw[Rat.divInt_eq_div]at h
 have h0:((y.den:Int):Rat)≠0:=fun e=>by
  have:((y.den:Int):Rat)=((0:Int):Rat):=e
  have:=Rat.intCast_inj.1 this
  have:=y.den_pos
  omega
 have h2:=Rat.div_mul_cancel h0 (a:=(y.num:Rat))
 rw[h,Rat.intCast_natCast]at h2
 exact h2
theorem den_dvd {y:Rat} {T:Nat} {z:Int} (h:(T:Rat)*y=(z:Rat)):y.den ∣ T:=by
 have h1:y*(y.den:Rat)=(y.num:Rat):=mul_denQ y
 have h2:(((T:Int)*y.num:Int):Rat)=((z*(y.den:Int):Int):Rat):=by
  rw[Rat.intCast_mul,Rat.intCast_mul,←h1,←h,Rat.intCast_natCast,Rat.intCast_natCast,Rat.mul_assoc]
 have h3:=Rat.intCast_inj.1 h2
 have h4:(y.den:Int) ∣ (T:Int)*y.num:=⟨z,by rw[h3,Int.mul_comm]⟩
 have h5:y.den ∣ T*y.num.natAbs:=by
  have:=Int.natAbs_dvd_natAbs.2 h4
  simpa [Int.natAbs_mul] using this
 exact Nat.Coprime.dvd_of_dvd_mul_right (Nat.Coprime.symm y.reduced) h5
theorem scF_dvd {S M:Nat} {x:Rat} (hS:S ∣ M) (hM : ∃ z:Int,(M:Rat)*x=(z:Rat)) : ∃ S':Nat,scF (S:Rat) x=(S':Rat)∧S' ∣ M∧S ∣ S' ∧ ∃ z:Int,(S':Rat)*x=(z:Rat):=by
 obtain ⟨T,rfl⟩:=hS
 obtain ⟨z,hz⟩:=hM
 have h1:((S:Rat)*x).den ∣ T:=den_dvd (z:=z) (by rw[←hz,Rat.natCast_mul];grind)
 have h2:((S:Rat)*x)*((((S:Rat)*x).den:Nat):Rat)=(((S:Rat)*x).num:Rat):=mul_denQ _
 generalize ((S:Rat)*x).num=u at h2
 refine ⟨S*((S:Rat)*x).den,?_,Nat.mul_dvd_mul_left S h1,Nat.dvd_mul_right _ _,u,?_⟩
 ·rw[scF,Rat.natCast_mul]
 ·rw[Rat.natCast_mul];grind
theorem scQ_fold {M:Nat} : ∀ (l:List Rat) (S:Nat),S ∣ M→(∀ x∈l,∃ z:Int,(M:Rat)*x=(z:Rat)) → ∃ S':Nat,l.foldl scF (S:Rat)=(S':Rat)∧S' ∣ M∧S ∣ S' ∧ ∀ x∈l,∃ z:Int,(S':Rat)*x=(z:Rat)
 | [],S,hS,_=>⟨S,rfl,hS,Nat.dvd_refl S,fun x hx=>by cases hx⟩
 | x::l,S,hS,h=>by
  obtain ⟨S1,e1,d1,d2,z,hz⟩:=scF_dvd hS (h x List.mem_cons_self)
  obtain ⟨S2,e2,d3,d4,h2⟩:=scQ_fold l S1 d1 fun y hy=>h y (List.mem_cons_of_mem _ hy)
  refine ⟨S2,by rw[List.foldl_cons,e1,e2],d3,Nat.dvd_trans d2 d4,fun y hy => ?_⟩
  rcases List.mem_cons.1 hy with rfl|hy
  ·obtain ⟨k,rfl⟩:=d4
   exact ⟨z*(k:Int),by rw[Rat.natCast_mul,Rat.intCast_mul,←hz,Rat.intCast_natCast];grind⟩
  ·exact h2 y hy
theorem scQ_whole {M:Nat} {l:List Rat} (h : ∀ x∈l,∃ z:Int,(M:Rat)*x=(z:Rat)) : ∃ S:Nat,scQ l=(S:Rat)∧S ∣ M ∧ ∀ x∈l,∃ z:Int,x*scQ l=(z:Rat):=by
 obtain ⟨S,e,d,_,h2⟩:=scQ_fold l 1 (Nat.one_dvd M) h
 refine ⟨S,e,d,fun x hx => ?_⟩
 obtain ⟨z,hz⟩:=h2 x hx
 exact ⟨z,by rw[Rat.mul_comm,←hz];congr 1⟩
def KI:Nat→Nat→Nat
 | 0,_=>0
 | n+1,k=>KI n (2*k+1)+k+n+1
theorem int_sol : ∀ (n k:Nat) (l:List (List Rat × Rat)),l.length=n→(∀ p∈l,p.1.length=n∧(∀ x∈p.1,Wh k x)∧Wh k p.2)→(∀ X:List Rat,X.length=n→(∀ p∈l,dotQ p.1 X=0) → ∀ z∈X,z=0) →
  ∃ (N:Rat) (v:List Rat),N≠0∧Wh (KI n k) N∧v.length=n∧(∀ x∈v,Wh (KI n k) x) ∧ ∀ p∈l,dotQ p.1 v=N*p.2
 | 0,k,l,hl,_,_=>⟨1,[],by decide,Wh.one _,rfl,(fun x hx=>by cases hx),(fun p hp=>by rw[List.length_eq_zero_iff.1 hl]at hp;cases hp)⟩
 | n+1,k,l,hl,hb,hns=>by
  have hsplit : ∀ p∈l,∃ (a:Rat) (t:List Rat),p.1=a::t∧t.length=n∧Wh k a∧(∀ x∈t,Wh k x):=fun p hp=>by
   obtain ⟨h1,h2,_⟩:=hb p hp
   obtain ⟨p1,p2⟩:=p
   cases p1 with
   | nil=>simp at h1
   | cons a t=>exact ⟨a,t,rfl,by simpa using h1,h2 a List.mem_cons_self,fun x hx=>h2 x (List.mem_cons_of_mem _ hx)⟩
  obtain ⟨p,hp,hp0⟩ : ∃ p∈l,p.1.headD 0≠0:=Classical.byContradiction fun hno=>by
   have:=hns (1::List.replicate n 0) (by simp) (fun p hp=>by
    obtain ⟨a,t,e,ht,_,_⟩:=hsplit p hp
    have ha:a=0:=Classical.byContradiction fun h=>hno ⟨p,hp,by rw[e];exact h⟩
    rw[e,dotQ,dotQ_zerosR,ha];grind) 1 List.mem_cons_self
   exact absurd this (by decide)
  obtain ⟨l1,l2,rfl⟩:=List.append_of_mem hp
  obtain ⟨a,t,ep,ht,hat,htt⟩:=hsplit p hp
  have hap:a≠0:=by rw[ep]at hp0;exact hp0
  have hpb:=(hb p hp).2.2
  have hmem : ∀ q,q∈l1++l2→q∈l1++p::l2:=fun q hq=>by
   rcases List.mem_append.1 hq with h|h
   ·exact List.mem_append_left _ h
   ·exact List.mem_append_right _ (List.mem_cons_of_mem _ h)
  have hcase : ∀ q,q∈l1++p::l2→q=p∨q∈l1++l2:=fun q hq=>by
   rcases List.mem_append.1 hq with h|h
   ·exact Or.inr (List.mem_append_left _ h)
   ·rcases List.mem_cons.1 h with h|h
    ·exact Or.inl h
    ·exact Or.inr (List.mem_append_right _ h)
  obtain ⟨N,v,n1,n2,n3,n4,n5⟩:=int_sol n (2*k+1) ((l1++l2).map fun q=>(comb a (q.1.headD 0) 1 q.1.tail t,a*q.2-q.1.headD 0*p.2)) (by
   rw[List.length_map,List.length_append]
   rw[List.length_append,List.length_cons]at hl
   omega) (fun q' hq'=>by
    obtain ⟨q,hq,rfl⟩:=List.mem_map.1 hq'
    obtain ⟨c,s,eq,hs,hc,hss⟩:=hsplit q (hmem q hq)
    have hqb:=(hb q (hmem q hq)).2.2
    simp only[eq,List.headD_cons,List.tail_cons]
    refine ⟨by rw[comb_len (by omega)];exact hs,fun x hx => ?_,?_⟩
    ·obtain ⟨y,hy,w,hw,rfl⟩:=comb_mem hx
     rw[show (y*a-w*c)/1=y*a-w*c by rw[Rat.div_def];grind]
     exact ((((hss y hy).mul hat).sub ((htt w hw).mul hc))).le (by omega)
    ·exact (((hat.mul hqb).sub (hc.mul hpb))).le (by omega)) (fun X hX hk=>by
    have hz:=hns (-(dotQ t X)/a::X) (by rw[List.length_cons,hX]) (fun q hq=>by
     have hda:=Rat.div_mul_cancel hap (a := -(dotQ t X))
     rcases hcase q hq with rfl|hq2
     ·rw[ep,dotQ];grind
     ·obtain ⟨c,s,eq,hs,_,_⟩:=hsplit q hq
      have h1:=hk _ (List.mem_map.2 ⟨q,hq2,rfl⟩)
      simp only[eq,List.headD_cons,List.tail_cons]at h1
      rw[comb_dot a c 1 s t X (by omega),show (a*dotQ s X-c*dotQ t X)/1=a*dotQ s X-c*dotQ t X by rw[Rat.div_def];grind]at h1
      rw[eq,dotQ]
      generalize -(dotQ t X)/a=u at *
      generalize dotQ t X=w at *
      generalize dotQ s X=y at *
      have h2:a*(c*u+y)=0:=by grind
      rcases Rat.mul_eq_zero.1 h2 with h|h
      ·exact absurd h hap
      ·exact h)
    intro z hz2
    exact hz z (List.mem_cons_of_mem _ hz2))
  refine ⟨a*N,(N*p.2-dotQ t v)::v.map (a * ·),?_,?_,by rw[List.length_cons,List.length_map,n3],fun x hx => ?_,fun q hq => ?_⟩
  ·intro e
   rcases Rat.mul_eq_zero.1 e with e|e
   ·exact hap e
   ·exact n1 e
  ·exact (hat.mul n2).le (by rw[KI];omega)
  ·rcases List.mem_cons.1 hx with rfl|hx
   ·refine (((n2.mul hpb).le (show KI n (2*k+1)+k≤KI n (2*k+1)+k+n by omega)).sub ((Wh.dot htt n4).le (by omega))).le (by rw[KI];omega)
   ·obtain ⟨y,hy,rfl⟩:=List.mem_map.1 hx
    exact (hat.mul (n4 y hy)).le (by rw[KI];omega)
  ·have hm : ∀ s:List Rat,dotQ s (v.map (a * ·))=a*dotQ s v:=fun s=>by rw[dotQ_comm,dotQ_sml,dotQ_comm]
   rcases hcase q hq with rfl|hq2
   ·rw[ep,dotQ,hm];grind
   ·obtain ⟨c,s,eq,hs,_,_⟩:=hsplit q hq
    have h1:=n5 _ (List.mem_map.2 ⟨q,hq2,rfl⟩)
    simp only[eq,List.headD_cons,List.tail_cons]at h1
    rw[comb_dot a c 1 s t v (by omega),show (a*dotQ s v-c*dotQ t v)/1=a*dotQ s v-c*dotQ t v by rw[Rat.div_def];grind]at h1
    rw[eq,dotQ,hm]
    grind
theorem sol_small {n k:Nat} {a:List (List Rat)} {b c:List Rat} (hal:a.length=n) (haw : ∀ r∈a,r.length=n) (hbl:b.length=n) (ha : ∀ r∈a,∀ x∈r,Wh k x) (hb : ∀ x∈b,Wh k x) (hns:NS n a) (hc:c.length=n) (h : ∀ (i:Nat) (r:List Rat) (s:Rat),a[i]? = some r→b[i]? = some s→dotQ r c=s):Bs (2*KI n k) c:=by
 obtain ⟨N,v,n1,n2,n3,n4,n5⟩:=int_sol n k (a.zip b) (by rw[List.length_zip];omega) (fun p hp=>by
  obtain ⟨h1,h2⟩:=List.of_mem_zip (a:=p.1) (b:=p.2) hp
  exact ⟨haw _ h1,ha _ h1,hb _ h2⟩) (fun X hX hk=>by
  have hz:=hns X hX fun r hr=>by
   obtain ⟨i,hi⟩:=List.getElem?_of_mem hr
   obtain ⟨s,hs⟩ : ∃ s,b[i]? = some s:=⟨_,zE (by have:=(zS hi).1;omega)⟩
   exact hk (r,s) (zM (i:=i) (by rw[List.getElem?_zip_eq_some];exact ⟨hi,hs⟩))
  intro z hz2
  obtain ⟨j,hj⟩:=List.getElem?_of_mem hz2
  have:=hz j
  rw[List.getD_eq_getElem?_getD,hj]at this
  exact this)
 have hNi:=Rat.mul_inv_cancel N n1
 have e:c=v.map (· * N⁻¹):=sub_ker haw hc (by rw[List.length_map];exact n3) (by
  refine List.ext_getElem? fun i => ?_
  simp only[mvQ,List.getElem?_map]
  cases hi:a[i]? with
  | none=>rfl
  | some r =>
   obtain ⟨s,hs⟩ : ∃ s,b[i]? = some s:=⟨_,zE (by have:=(zS hi).1;omega)⟩
   have h5:=n5 (r,s) (zM (i:=i) (by rw[List.getElem?_zip_eq_some];exact ⟨hi,hs⟩))
   rw[Option.map_some,Option.map_some,h i r s hi hs,dotQ_comm,dotQ_smr,dotQ_comm,h5]
   congr 1
   grind) hns
 rw[e]
 intro x hx
 obtain ⟨y,hy,rfl⟩:=List.mem_map.1 hx
 rw[←Rat.div_def]
 exact ((n4 y hy).bt.divL n2.bt).le (by omega)
end Go.Eng

namespace Go.Eng
theorem len1 {α:Type} {l:List α} (h:l.length=1) : ∃ a,l=[a]:=by
 rcases l with _|⟨a,_|⟨b,l⟩⟩<;>simp at h
 exact ⟨a,rfl⟩
end Go.Eng

namespace Go.Eng
open F
theorem evI_ro {L:Lib} {f:Nat} {fn:AFn} {vs:List AV} {own own':Own} {r:AV} (hL:L f=some fn) (hro:cRo fn.body=true) (h:EvI L f vs own r own'):own'=own:=by
 obtain ⟨n,h⟩:=h
 cases n with
 | zero=>simp [evI]at h
 | succ n =>
  rw[evI_succ]at h
  simp only[hL]at h
  split at h
  ·split at h
   ·rename_i st hst
    split at h
    ·simp only[Option.some.injEq,Prod.mk.injEq]at h
     rw[←h.2]
     exact run_ro n (by simp [iRo,hro]) hst
    ·cases h
   ·cases h
  ·cases h
attribute [local irreducible] AKM CmpP Req OpP UnP ConvP RdP LdR StR MkR LenP AppR AppN CpyR RowP SnR Bds SlS CallP CalP FinP pw LdM GetM SetM PutM MkM AppM SnM FlP CallR
set_option maxHeartbeats 1000000
variable {L:Lib}
theorem cut_walk (N:NatGLib L) (l:List Nat) (s:Nat) (hD:Dig l) (hl:l.length≤1099511627776):CalP L 65 [.row 5 0 1 0 l.length] [(0,.row 5 0 1 0 l.length)] [(5,s,.rw 1 (l.map e32))] (fun r _=>r = .row 5 0 1 0 (dg (val l)).length):=by
 have hlen : ∀ n,n≤l.length→l.take n=dg (val l)→n=(dg (val l)).length:=fun n h1 h2=>by
  rw[←h2,List.length_take];omega
 refine CalP.walk 1000 N.nat_cut rfl rfl ?_
 (repeat' (refine AKM.x ?_;conv=>whnf))
 refine AKM.loop1 (fun n=>n) (fun (n:Nat)=>n≤l.length ∧ ∀ i,n≤i→i<l.length→l[i]? = some 0) (fun n=>[(3,.int .i64 n)]) (fun _=>[]) [] [] l.length (by (conv=>whnf);exact ⟨rfl,rfl,rfl⟩) ⟨Nat.le_refl _,fun i h1 h2=>by omega⟩ ?_
 intro n ⟨p1,p2⟩ ih
 rcases n with _|n
 ·(repeat' (first|(refine CmpP.go (fun hc => ?_) (fun hc => ?_)<;>first|(exfalso;omega)|(conv=>whnf))|(refine AKM.x ?_;conv=>whnf)))
  refine Bds.up 0 (by omega) (by omega) ?_
  (conv=>whnf)
  refine ⟨rfl,_,rfl,?_⟩
  rw[←hlen 0 p1 (cut_found hD p1 p2 (Or.inl rfl))]
  rfl
 ·have e1:((n+1:Nat):Int)-1=n:=by omega
  (repeat' (first|(refine CmpP.go (fun hc => ?_) (fun hc => ?_)<;>first|(exfalso;omega)|(conv=>whnf))|(refine Req.go ?_ ?_;omega;conv=>whnf)|(refine OpP.sub ?_ ?_;omega;conv=>whnf)|(refine LdR.digi (by assumption) ?_ (fun v hv hb => ?_);omega;conv=>whnf)|(refine AKM.x ?_;conv=>whnf)))
  ·rw[e1]
   exact AKM.back [] (by (conv=>whnf);exact ⟨rfl,rfl,rfl⟩) (ih n (by omega) ⟨by omega,fun i h1 h2=>by
    by_cases h:i=n
    ·subst h
     rw[e1,Int.toNat_natCast]at hv
     rw[hv];congr 1;omega
    ·exact p2 i (by omega) h2⟩)
  ·refine Bds.up (n+1) (by omega) (by omega) ?_
   (conv=>whnf)
   refine ⟨rfl,_,rfl,?_⟩
   rw[e1,Int.toNat_natCast]at hv
   rw[←hlen (n+1) p1 (cut_found hD p1 p2 (Or.inr ⟨_,hv,by omega⟩))]
   rfl
theorem cut_evI (N:NatGLib L) (l:List Nat) (s t:Nat) (own:Own) (hD:Dig l) (hl:l.length≤1099511627776) (hb:(own s).blk t=some ⟨1,l.map e32⟩) (ht:t<(own s).cnt) (hlo:loSite s=true):EvI L 65 [.row s t 1 0 l.length] own (.row s t 1 0 (dg (val l)).length) own:=by
 have hs:Sat (fun _ _=>(s,t)) own [(5,s,.rw 1 (l.map e32))]:=by
  have key : ∀ k u c,mref [(5,s,Cel.rw 1 (l.map e32))] k u=some c→k=5∧u=0∧c = .rw 1 (l.map e32):=fun k u c e=>by
   simp only[mref,mget]at e
   cases hk:Nat.beq k 5<;>simp only[hk,cond_true,cond_false]at e
   ·cases e
   ·cases u with
    | zero=>simp only[Option.some.injEq]at e;exact ⟨Nat.eq_of_beq_eq_true hk,rfl,e.symm⟩
    | succ u=>cases e
  refine ⟨fun k s' c e => ?_,fun k u c e => ?_,fun k u c e=>ht,fun k u k' u' c c' e e' _ => ?_,fun _ _ _ _ _=>hlo⟩
  ·simp only[mget]at e
   cases hk:Nat.beq k 5<;>simp only[hk,cond_true,cond_false]at e
   ·cases e
   ·simp only[Option.some.injEq,Prod.mk.injEq]at e;exact e.1
  ·obtain ⟨_,_,rfl⟩:=key k u c e
   exact hb
  ·obtain ⟨rfl,rfl,_⟩:=key k u c e
   obtain ⟨rfl,rfl,_⟩:=key k' u' c' e'
   exact ⟨rfl,rfl⟩
 have hw:=cut_walk N l s hD hl
 unfold CalP at hw
 obtain ⟨r,own',σ',M',h1,h2,h3,rfl⟩:=hw _ own hs
 have ho:=evI_ro N.nat_cut (by decide +kernel) h1
 subst ho
 have h4:AV.row (σ' 5 0).1 (σ' 5 0).2 1 0 l.length=AV.row s t 1 0 l.length:=h3 0
 simp only[AV.row.injEq]at h4
 have h5:EvI L 65 [.row s t 1 0 l.length] own' (.row (σ' 5 0).1 (σ' 5 0).2 1 0 (dg (val l)).length) own':=h1
 rw[h4.1,h4.2.1]at h5
 exact h5
theorem CalP.cutR (N:NatGLib L) {l:List Nat} {tm:Tm} {M:Mem} {K:AV→Mem→Prop} {key s len:Nat} (hD:Dig l) (hl:l.length≤1099511627776) (hm:mget M key=some (s,.rw 1 (l.map e32))) (hlen:len=l.length) (hk:K (.row key 0 1 0 (dg (val l)).length) M):CalP L 65 [.row key 0 1 0 len] tm M K:=by
 subst hlen
 unfold CalP
 intro σ own hs
 have hsite:=hs.site _ _ _ hm
 have href:mref M key 0=some (.rw 1 (l.map e32)):=by simp only[mref,hm]
 have hb:=hs.blk _ _ _ href
 have ht:=hs.old _ _ _ href
 refine ⟨.row key 0 1 0 (dg (val l)).length,own,σ,M,?_,hs,fun _=>rfl,hk⟩
 exact cut_evI N l (σ key 0).1 (σ key 0).2 own hD hl hb ht (hs.low _ _ _ (mref_root hm) rfl)
end Go.Eng

namespace Go.Eng
open F
attribute [local irreducible] AKM CmpP Req OpP UnP ConvP RdP LdR StR MkR LenP AppR AppN CpyR RowP SnR Bds SlS CallP CalP FinP pw LdM GetM SetM PutM MkM AppM SnM FlP CallR
set_option maxHeartbeats 4000000
variable {L:Lib}
abbrev dvTM (v:List Nat) (j m s xl:Nat):Tm:=[(102,AV.sl false (List.map e32 v)),(101,AV.row 71012 0 1 j (v.length+1)),
           (100,AV.int IntKind.i64 (↑j + ↑v.length+1)),(99,AV.int IntKind.i64 (↑j + ↑v.length)),
           (98,AV.int IntKind.i64 ↑v.length),(97,AV.int IntKind.i64 ↑j),(96,AV.int IntKind.i64 ↑j),
           (95,AV.row 71012 0 1 0 (xl+1)),(94,AV.int IntKind.i64 ↑j),(93,AV.row 28 0 1 0 m),
           (90,AV.bool true),(14,AV.int IntKind.i64 ↑j),(13,AV.sl false (List.map e32 v)),
           (12,AV.row 71012 0 1 0 (xl+1)),(11,AV.int IntKind.u64 ↑s),(7,AV.row 28 0 1 0 m),
           (6,AV.int IntKind.i64 ↑v.length)]
abbrev dvK2:List It:=[It.lp nat_digit.l2,It.blk 2,It.code
      (((ACode.ops nat_digit.r18 false).dr [9,10,84,85,86,87,118,119,120,121,122,123,124,125,126]
         []).seq
       (((ACode.ops nat_digit.r19 false).dr [127,128,129,130,131] []).seq
        ((((ACode.ops nat_digit.r20 false).dr [15,132,133] []).seq
           (ACode.cond 134
            (((ACode.ops nat_digit.r21 false).dr [0,1,5,7,134,135,136] []).seq ACode.ret)
            ACode.skip)).seq
         (((ACode.ops nat_digit.r22 false).dr [134] []).seq
          ((((ACode.ops nat_digit.r23 false).dr [1] []).seq (ACode.block 4 nat_digit.l3.loop)).seq
           (((ACode.ops nat_digit.r30 false).dr
              [0,5,9,137,138,139,140,162,163,164,165,166,167,168,169] []).seq
            (((ACode.ops nat_digit.r31 false).dr [7,170,171,172] []).seq ACode.ret)))))))]
section
variable {A W C w v:List Nat} {j m s xl q:Nat} {K:AV→Mem→Prop}
theorem digit_rest (hA:A.length=j) (hW:W.length=v.length+1) (D2:Dig W) (hVD:Dig v) (hv2l:2≤v.length) (hvL:v.length≤549755813888) (hV0:0<val v)
  (r1:q<4294967296) (r2:val W/val v≤q) (r3:q≤val W/val v+1)
  (hk : ∀ (W':List Nat) (o':List (List AV)) (q':Nat),W'.length=v.length+1→Dig W'→val W'=val W%val v→q'=val W/val v→K (.int .u32 (q':Int)) [(71012,71012,.rw 1 ((A++W'++C).map e32)),(28,28,.rw 1 (w.map e32)),(71012,71012,.rw 1 o')])
  (hk2 : ∀ (W':List Nat) (o':List (List AV)) (q':Nat),W'.length=v.length+1→Dig W'→val W'=val W%val v→q'=val W/val v→K (.int .u32 (q':Int)) [(71012,71012,.rw 1 ((A++W'++C).map e32)),(71012,71012,.rw 1 o'),(28,28,.rw 1 (w.map e32))]) :
  AKM L dvK2 ([(86,.int .i64 0),(85,.int .i64 v.length),(84,.sl false (v.map e32)),(10,.int .u64 0),(9,.int .u64 0),(7,.int .u64 (q:Int)),(5,.int .i64 v.length),(0,AV.row 71012 0 1 j (v.length+1)),(1,AV.sl false (List.map e32 v))]++shT 1000 (dvTM v j m s xl))
   [(71012,71012,Cel.rw 1 (List.map e32 (A++W++C))),(28,28,Cel.rw 1 (List.map e32 w))] (RetI 1000 nat_digit (dvTM v j m s xl) K):=by
 refine AKM.loop4 (fun i _ _ _=>v.length-i) (fun (i:Nat) (Z:List Nat) (c b:Nat)=>i≤v.length∧Z.length=v.length+1∧Dig Z∧c<4294967296∧b≤1∧Z.drop i=W.drop i∧val (Z.take i)+q*val (v.take i)=val (W.take i)+4294967296^i*(c+b)) (fun i Z c b=>[(86,.int .i64 i),(10,.int .u64 (b:Int)),(9,.int .u64 (c:Int))]) (fun i Z c b=>[(71012,71012,.rw 1 ((A++Z++C).map e32))]) [] [] 0 W 0 0 (by (conv=>whnf);exact ⟨rfl,rfl,rfl⟩) ⟨by omega,hW,D2,by omega,by omega,rfl,by simp [val]⟩ ?_
 intro i Z c b ⟨p1,p2,p3,p4,p5,p6,p7⟩ ih
 by_cases hi:i<v.length
 ·obtain ⟨d,hd⟩ : ∃ d,v[i]? = some d:=⟨_,zE hi⟩
  obtain ⟨u,hu⟩ : ∃ u,Z[i]? = some u:=⟨_,zE (by omega)⟩
  have hdb:=hVD.at hd
  have hub:=p3.at hu
  obtain ⟨pr,hpr⟩ : ∃ pr,pr=q*d+c:=⟨_,rfl⟩
  obtain ⟨m1,m2,m3⟩:=ms_carry r1 hdb p4 hpr
  have hWi:W[i]? = some u:=by
   have e1:(Z.drop i)[0]? = (W.drop i)[0]? := by rw[p6]
   simpa [hu] using e1.symm
  (repeat' (first|(refine CmpP.go (fun hc => ?_) (fun hc => ?_)<;>first|(exfalso;omega)|(conv=>whnf))|(refine Req.go ?_ ?_;omega;conv=>whnf)|(refine OpP.nadd ?_ ?_;omega;conv=>whnf)|(refine OpP.nmul ?_ ?_;omega;conv=>whnf)|(refine OpP.nshr32 ?_;conv=>whnf)|(refine ConvP.u64 ?_ ?_;omega;conv=>whnf)|(refine RdP.at (by assumption) ?_ rfl ?_;omega;conv=>whnf)|(refine AKM.x ?_;conv=>whnf)))
  rw[←hpr]
  refine LdR.winat i hu (by omega) ?_
  (conv=>whnf)
  (repeat' (first|(refine Req.go ?_ ?_;omega;conv=>whnf)|(refine OpP.nsubw ?_ ?_;omega;conv=>whnf)|(refine ConvP.u64 ?_ ?_;omega;conv=>whnf)|(refine ConvP.n32 ?_;conv=>whnf)))
  obtain ⟨s1,s2⟩:=sub_step hub (show pr%4294967296<4294967296 by omega) p5
  have hst:=ms_step p7 hpr rfl hub p5
  generalize w64s (w64s u (pr%4294967296)) b=t at *
  refine StR.win i (by omega) (by omega) ?_
  (conv=>whnf)
  (repeat' (first|(refine OpP.add ?_ ?_;omega;conv=>whnf)|(refine OpP.nshr63 ?_;conv=>whnf)))
  refine AKM.back [] (by (conv=>whnf);exact ⟨rfl,rfl,rfl⟩) (ih (i+1) _ _ _ (by omega) ⟨by omega,by simpa using p2,p3.set _ (by omega),m1,s2,?_,?_⟩)
  ·rw[List.drop_set_of_lt (by omega)]
   have e1:(Z.drop i).drop 1=(W.drop i).drop 1:=by rw[p6]
   simpa using e1
  ·rw[val_set_take (by omega),val_take_succ hd,val_take_succ hWi,Nat.pow_succ]
   exact hst
 ·obtain rfl:i=v.length:=by omega
  clear ih
  obtain ⟨u,hu⟩ : ∃ u,Z[v.length]? = some u:=⟨_,zE (by omega)⟩
  have hub:=p3.at hu
  have hWi:W[v.length]? = some u:=by
   have e1:(Z.drop v.length)[0]? = (W.drop v.length)[0]? := by rw[p6]
   simpa [hu] using e1.symm
  rw[val_take_all (Nat.le_refl v.length)]at p7
  obtain ⟨s1,s2⟩:=sub_step hub p4 p5
  have hst:=ms_last p7 rfl hub p4 p5
  have eW:val W=val (W.take v.length)+4294967296^v.length*u:=by
   rw[←val_take_succ hWi,val_take_all (by omega)]
  rw[←eW,←val_set_take (show v.length<Z.length by omega),val_take_all (by simp;omega)]at hst
  (repeat' (first|(refine CmpP.go (fun hc => ?_) (fun hc => ?_)<;>first|(exfalso;omega)|(conv=>whnf))|(refine Req.go ?_ ?_;omega;conv=>whnf)|(refine AKM.x ?_;conv=>whnf)))
  refine LdR.winat v.length hu (by omega) ?_
  (conv=>whnf)
  (repeat' (first|(refine Req.go ?_ ?_;omega;conv=>whnf)|(refine OpP.nsubw ?_ ?_;omega;conv=>whnf)|(refine ConvP.u64 ?_ ?_;omega;conv=>whnf)|(refine ConvP.n32 ?_;conv=>whnf)))
  generalize w64s (w64s u c) b=t at *
  refine StR.win v.length (by omega) (by omega) ?_
  (conv=>whnf)
  (repeat' (first|(refine CmpP.go (fun hc => ?_) (fun hc => ?_)<;>first|(exfalso;omega)|(conv=>whnf))|(refine OpP.nshr63 ?_;conv=>whnf)|(refine ConvP.n32i ?_ ?_;omega;conv=>whnf)|(refine LenP.go ?_;conv=>whnf)))
  ·have ht0:t/9223372036854775808=0:=by omega
   rw[ht0,Nat.mul_zero,Nat.add_zero]at hst
   obtain ⟨y1,y2⟩:=digit_ok hV0 r2 hst
   exact ⟨rfl,_,rfl,hk _ _ _ (by simpa using p2) (p3.set _ (by omega)) y2 y1⟩
  ·have ht1:t/9223372036854775808=1:=by omega
   rw[ht1,Nat.mul_one]at hst
   have hXD:Dig (Z.set v.length (t%4294967296)):=p3.set _ (by omega)
   have hXl:(Z.set v.length (t%4294967296)).length=v.length+1:=by simpa using p2
   clear p7 p6 p4 p5 s1 s2 eW ht1 hu hWi hub p1 p2 p3
   generalize Z.set v.length (t%4294967296)=X at *
   have hU':=val_lt hXD
   rw[hXl,Nat.pow_succ]at hU'
   obtain ⟨y1,y2,y3⟩:=digit_back hV0 r3 hU' hst
   have hRV:val W%val v<val v:=Nat.mod_lt _ hV0
   have hVl:=val_lt hVD
   obtain ⟨xw,hxw⟩ : ∃ xw,X[v.length]? = some xw:=⟨_,zE (by omega)⟩
   have eX:val X=val (X.take v.length)+4294967296^v.length*xw:=by
    rw[←val_take_succ hxw,val_take_all (by omega)]
   refine AKM.loop3 (fun i _ _=>v.length-i) (fun (i:Nat) (Z:List Nat) (c:Nat)=>i≤v.length∧Z.length=v.length+1∧Dig Z∧c≤1∧Z.drop i=X.drop i∧val (Z.take i)+4294967296^i*c=val (X.take i)+val (v.take i)) (fun i Z c=>[(139,.int .i64 i),(9,.int .u64 (c:Int))]) (fun i Z c=>[(71012,71012,.rw 1 ((A++Z++C).map e32))]) [] [] 0 X 0 (by (conv=>whnf);exact ⟨rfl,rfl,rfl⟩) ⟨by omega,hXl,hXD,by omega,rfl,by simp [val]⟩ ?_
   intro i Z c ⟨p1,p2,p3,p4,p6,p7⟩ ih
   by_cases hi:i<v.length
   ·obtain ⟨d,hd⟩ : ∃ d,v[i]? = some d:=⟨_,zE hi⟩
    obtain ⟨u,hu⟩ : ∃ u,Z[i]? = some u:=⟨_,zE (by omega)⟩
    have hdb:=hVD.at hd
    have hub:=p3.at hu
    have hXi:X[i]? = some u:=by
     have e1:(Z.drop i)[0]? = (X.drop i)[0]? := by rw[p6]
     simpa [hu] using e1.symm
    have hab:=ab_step (d:=d) (w:=u) p7 rfl
    (repeat' (first|(refine CmpP.go (fun hc => ?_) (fun hc => ?_)<;>first|(exfalso;omega)|(conv=>whnf))|(refine Req.go ?_ ?_;omega;conv=>whnf)|(refine RdP.at (by assumption) ?_ rfl ?_;omega;conv=>whnf)|(refine AKM.x ?_;conv=>whnf)))
    refine LdR.winat i hu (by omega) ?_
    (conv=>whnf)
    (repeat' (first|(refine Req.go ?_ ?_;omega;conv=>whnf)|(refine OpP.nadd ?_ ?_;omega;conv=>whnf)|(refine ConvP.u64 ?_ ?_;omega;conv=>whnf)|(refine ConvP.n32 ?_;conv=>whnf)))
    generalize ht2:u+d+c=t2 at *
    refine StR.win i (by omega) (by omega) ?_
    (conv=>whnf)
    (repeat' (first|(refine OpP.add ?_ ?_;omega;conv=>whnf)|(refine OpP.nshr32 ?_;conv=>whnf)))
    refine AKM.back [] (by (conv=>whnf);exact ⟨rfl,rfl,rfl⟩) (ih (i+1) _ _ (by omega) ⟨by omega,by simpa using p2,p3.set _ (by omega),by omega,?_,?_⟩)
    ·rw[List.drop_set_of_lt (by omega)]
     have e1:(Z.drop i).drop 1=(X.drop i).drop 1:=by rw[p6]
     simpa using e1
    ·rw[val_set_take (by omega),val_take_succ hd,val_take_succ hXi,Nat.pow_succ]
     exact hab
   ·obtain rfl:i=v.length:=by omega
    clear ih
    obtain ⟨u,hu⟩ : ∃ u,Z[v.length]? = some u:=⟨_,zE (by omega)⟩
    have hub:=p3.at hu
    have hXi:X[v.length]? = some u:=by
     have e1:(Z.drop v.length)[0]? = (X.drop v.length)[0]? := by rw[p6]
     simpa [hu] using e1.symm
    rw[hXi]at hxw
    obtain rfl:u=xw:=by simpa using hxw
    rw[val_take_all (Nat.le_refl v.length)]at p7
    have hZl:=val_lt (p3.take v.length)
    rw[List.length_take,Nat.min_eq_left (by omega)]at hZl
    rw[eX]at y3
    have hend:=ab_last p7 y3 (by omega) hZl
    rw[←val_set_take (show v.length<Z.length by omega),val_take_all (by simp;omega)]at hend
    (repeat' (first|(refine CmpP.go (fun hc => ?_) (fun hc => ?_)<;>first|(exfalso;omega)|(conv=>whnf))|(refine Req.go ?_ ?_;omega;conv=>whnf)|(refine AKM.x ?_;conv=>whnf)))
    refine LdR.winat v.length hu (by omega) ?_
    (conv=>whnf)
    (repeat' (first|(refine Req.go ?_ ?_;omega;conv=>whnf)|(refine OpP.nadd4 ?_;conv=>whnf)|(refine ConvP.n32i ?_ ?_;omega;conv=>whnf)))
    refine StR.win v.length (by omega) (by omega) ?_
    (conv=>whnf)
    (repeat' (first|(refine OpP.nsub ?_ ?_ ?_;omega;omega;conv=>whnf)|(refine ConvP.n32i ?_ ?_;omega;conv=>whnf)))
    exact ⟨rfl,_,rfl,hk2 _ _ _ (by simpa using p2) (p3.set _ (by omega)) hend y1⟩
theorem digit_walk (N:NatGLib L) (hA:A.length=j) (hW:W.length=v.length+1) (D2:Dig W) (hVD:Dig v) (hv2l:2≤v.length) (hvL:v.length≤549755813888) (hV0:0<val v)
  (n2:4294967296^(v.length-1)*2147483648≤val v) (g2:val W<4294967296*val v)
  (hk : ∀ (W':List Nat) (o':List (List AV)) (q':Nat),W'.length=v.length+1→Dig W'→val W'=val W%val v→q'=val W/val v→K (.int .u32 (q':Int)) [(71012,71012,.rw 1 ((A++W'++C).map e32)),(28,28,.rw 1 (w.map e32)),(71012,71012,.rw 1 o')])
  (hk2 : ∀ (W':List Nat) (o':List (List AV)) (q':Nat),W'.length=v.length+1→Dig W'→val W'=val W%val v→q'=val W/val v→K (.int .u32 (q':Int)) [(71012,71012,.rw 1 ((A++W'++C).map e32)),(71012,71012,.rw 1 o'),(28,28,.rw 1 (w.map e32))]) :
  CalP L 73 [AV.row 71012 0 1 j (v.length+1),AV.sl false (List.map e32 v)] (dvTM v j m s xl) [(71012,71012,Cel.rw 1 (List.map e32 (A++W++C))),(28,28,Cel.rw 1 (List.map e32 w))] K:=by
 obtain ⟨UL,a1,a2⟩:=val_top3 D2 (n:=v.length+1) (by omega) (by omega)
 obtain ⟨VL,b5,b6⟩:=val_top2 hVD (n:=v.length) hv2l (by omega)
 obtain ⟨u0,w0⟩ : ∃ d,W[v.length]? = some d:=⟨_,zE (by omega)⟩
 obtain ⟨u1,w1⟩ : ∃ d,W[v.length-1]? = some d:=⟨_,zE (by omega)⟩
 obtain ⟨u2,w2⟩ : ∃ d,W[v.length-2]? = some d:=⟨_,zE (by omega)⟩
 obtain ⟨f1,x1⟩ : ∃ d,v[v.length-1]? = some d:=⟨_,zE (by omega)⟩
 obtain ⟨f2,x2⟩ : ∃ d,v[v.length-2]? = some d:=⟨_,zE (by omega)⟩
 rw[show v.length+1-3=v.length-2 by omega,show v.length+1-2=v.length-1 by omega,show v.length+1-1=v.length by omega,getD_is w0,getD_is w1,getD_is w2]at a2
 rw[show v.length+1-3=v.length-2 by omega]at a1
 rw[getD_is x1,getD_is x2]at b6
 have hf1:=top_ge hVD (k:=v.length-1) (by omega) n2 x1
 have k0:=D2.at w0
 have k1:=D2.at w1
 have k2:=D2.at w2
 have k3:=hVD.at x1
 have k4:=hVD.at x2
 have z1:v[((v.length:Int)-1).toNat]? = some f1:=by rw[show ((v.length:Int)-1).toNat=v.length-1 by omega];exact x1
 have z2:v[((v.length:Int)-2).toNat]? = some f2:=by rw[show ((v.length:Int)-2).toNat=v.length-2 by omega];exact x2
 refine CalP.walk 1000 N.nat_digit rfl rfl ?_
 (repeat' (first|(refine Req.go ?_ ?_;omega;conv=>whnf)|(refine LenP.go ?_;conv=>whnf)|(refine AKM.x ?_;conv=>whnf)))
 refine LdR.winat v.length w0 (by omega) ?_
 (conv=>whnf)
 (repeat' (first|(refine Req.go ?_ ?_;omega;conv=>whnf)|(refine OpP.sub ?_ ?_;omega;conv=>whnf)|(refine OpP.nshl32 ?_ ?_;omega;conv=>whnf)|(refine ConvP.u64 ?_ ?_;omega;conv=>whnf)))
 refine LdR.winat (v.length-1) w1 (by omega) ?_
 (conv=>whnf)
 refine ConvP.n64 (by omega) ?_
 (conv=>whnf)
 refine OpP.nor (by omega) ?_
 (conv=>whnf)
 generalize htop:u0*4294967296+u1=top at *
 have htb:top≤18446744073709551615:=by omega
 have hU:val W=UL+4294967296^(v.length-2)*(u2+4294967296*top):=by rw[a2,show u1+4294967296*u0=top by omega]
 (repeat' (first|(refine OpP.sub ?_ ?_;omega;conv=>whnf)|(refine OpP.nrem ?_ ?_;omega;conv=>whnf)|(refine OpP.nquo ?_ ?_ ?_;omega;omega;conv=>whnf)|(refine ConvP.u64 ?_ ?_;omega;conv=>whnf)|(refine RdP.at (by assumption) ?_ rfl ?_;omega;conv=>whnf)))
 refine AKM.loop2 (fun q _=>q) (fun (q r:Nat)=>Gs (val W) (val v) f1 f2 u2 top q r) (fun q r=>[(7,.int .u64 (q:Int)),(8,.int .u64 (r:Int))]) (fun _ _=>[]) [] [] (top/f1) (top%f1) (by (conv=>whnf);exact ⟨rfl,rfl,rfl⟩) (Gs.start hU b6 a1 k2 hV0 (by omega) k3) ?_
 intro q r g ih2
 have hqt:q≤top:=by
  have h3:=g.hq
  have h4:q*1≤q*f1:=Nat.mul_le_mul_left q (by omega)
  omega
 have hr:=g.hr
 have hge:=g.ge
 by_cases hb:4294967296≤q
 ·obtain ⟨y1,y2,y3⟩:=g.next hU b6 a1 hV0 g2 (Or.inl hb)
  (repeat' (first|(refine CmpP.go (fun hc => ?_) (fun hc => ?_)<;>first|(exfalso;omega)|(conv=>whnf))|(refine OpP.sub ?_ ?_;omega;conv=>whnf)|(refine OpP.nadd ?_ ?_;omega;conv=>whnf)|(refine OpP.nsub ?_ ?_ ?_;omega;omega;conv=>whnf)|(refine ConvP.u64 ?_ ?_;omega;conv=>whnf)|(refine LenP.go ?_;conv=>whnf)|(refine RdP.at (by assumption) ?_ rfl ?_;omega;conv=>whnf)|(refine AKM.x ?_;conv=>whnf)))
  ·obtain ⟨t1,t2⟩:=guess_stop hU b6 b5 hf1 k4 g2 y2 (Or.inr (by omega))
   exact AKM.back [] (by (conv=>whnf);exact ⟨rfl,rfl,rfl⟩) (digit_rest (w:=w) (C:=C) hA hW D2 hVD hv2l hvL hV0 t1 y3 t2 hk hk2)
  ·exact AKM.back [] (by (conv=>whnf);exact ⟨rfl,rfl,rfl⟩) (ih2 (q-1) (r+f1) (by omega) ⟨y2,by omega,y3⟩)
 ·have hmq:=mul_le_dig (show q<4294967296 by omega) k4
  by_cases hb2:r*4294967296+u2<q*f2
  ·obtain ⟨y1,y2,y3⟩:=g.next hU b6 a1 hV0 g2 (Or.inr hb2)
   (repeat' (first|(refine CmpP.go (fun hc => ?_) (fun hc => ?_)<;>first|(exfalso;omega)|(conv=>whnf))|(refine Req.go ?_ ?_;omega;conv=>whnf)|(refine OpP.sub ?_ ?_;omega;conv=>whnf)|(refine OpP.nmul ?_ ?_;omega;conv=>whnf)|(refine OpP.nshl32 ?_ ?_;omega;conv=>whnf)|(refine ConvP.u64 ?_ ?_;omega;conv=>whnf)|(refine RdP.at (by assumption) ?_ rfl ?_;omega;conv=>whnf)|(refine AKM.x ?_;conv=>whnf)))
   refine LdR.winat (v.length-2) w2 (by omega) ?_
   (conv=>whnf)
   (repeat' (first|(refine CmpP.go (fun hc => ?_) (fun hc => ?_)<;>first|(exfalso;omega)|(conv=>whnf))|(refine OpP.sub ?_ ?_;omega;conv=>whnf)|(refine OpP.nadd ?_ ?_;omega;conv=>whnf)|(refine OpP.nor ?_ ?_;omega;conv=>whnf)|(refine OpP.nsub ?_ ?_ ?_;omega;omega;conv=>whnf)|(refine ConvP.u64 ?_ ?_;omega;conv=>whnf)|(refine LenP.go ?_;conv=>whnf)|(refine RdP.at (by assumption) ?_ rfl ?_;omega;conv=>whnf)))
   ·obtain ⟨t1,t2⟩:=guess_stop hU b6 b5 hf1 k4 g2 y2 (Or.inr (by omega))
    exact AKM.back [] (by (conv=>whnf);exact ⟨rfl,rfl,rfl⟩) (digit_rest (w:=w) (C:=C) hA hW D2 hVD hv2l hvL hV0 t1 y3 t2 hk hk2)
   ·exact AKM.back [] (by (conv=>whnf);exact ⟨rfl,rfl,rfl⟩) (ih2 (q-1) (r+f1) (by omega) ⟨y2,by omega,y3⟩)
  ·obtain ⟨t1,t2⟩:=guess_stop hU b6 b5 hf1 k4 g2 g.hq (Or.inl ⟨by omega,by omega⟩)
   (repeat' (first|(refine CmpP.go (fun hc => ?_) (fun hc => ?_)<;>first|(exfalso;omega)|(conv=>whnf))|(refine Req.go ?_ ?_;omega;conv=>whnf)|(refine OpP.sub ?_ ?_;omega;conv=>whnf)|(refine OpP.nmul ?_ ?_;omega;conv=>whnf)|(refine OpP.nshl32 ?_ ?_;omega;conv=>whnf)|(refine ConvP.u64 ?_ ?_;omega;conv=>whnf)|(refine RdP.at (by assumption) ?_ rfl ?_;omega;conv=>whnf)|(refine AKM.x ?_;conv=>whnf)))
   refine LdR.winat (v.length-2) w2 (by omega) ?_
   (conv=>whnf)
   (repeat' (first|(refine CmpP.go (fun hc => ?_) (fun hc => ?_)<;>first|(exfalso;omega)|(conv=>whnf))|(refine OpP.nor ?_ ?_;omega;conv=>whnf)|(refine ConvP.u64 ?_ ?_;omega;conv=>whnf)|(refine LenP.go ?_;conv=>whnf)))
   exact AKM.back [] (by (conv=>whnf);exact ⟨rfl,rfl,rfl⟩) (digit_rest (w:=w) (C:=C) hA hW D2 hVD hv2l hvL hV0 t1 hge t2 hk hk2)
end
end Go.Eng

namespace Go.Eng
open F
attribute [local irreducible] AKM CmpP Req OpP UnP ConvP RdP LdR StR MkR LenP AppR AppN CpyR RowP SnR Bds SlS CallP CalP FinP pw LdM GetM SetM PutM MkM AppM SnM FlP CallR
set_option maxHeartbeats 4000000
variable {L:Lib}
theorem small_step {V R y d t Q:Nat} (h:Q*y+R=V) (ht:t=R*4294967296+d):(t/y+4294967296*Q)*y+t%y=d+4294967296*V:=by
 have:=Nat.div_add_mod t y
 rw[←h,Nat.add_mul]
 have e:t/y*y=y*(t/y):=Nat.mul_comm _ _
 grind
theorem cl_pair (a b:List Nat):Clean (.tup [.sl false (a.map e32),.sl false (b.map e32)]):=by
 simp only[Clean,CleanL,and_true,true_and]
 exact ⟨cl_dig a,cl_dig b⟩
set_option maxHeartbeats 4000000 in
theorem ev_nat_divide (N:NatGLib L) (X Y:Nat) (q1 q2:Bool) (hY:Y≠0) (lx:(dg X).length≤549755813888) (ly:(dg Y).length≤549755813888):Ev L 74 [.sl q1 ((dg X).map e32),.sl q2 ((dg Y).map e32)] (.tup [.sl false ((dg (X/Y)).map e32),.sl false ((dg (X%Y)).map e32)]):=by
 have hcmp:=fun q q'=>ev_nat_Compare N (dg X) (dg Y) q q' (dig_dg X) (dig_dg Y) (by omega) (by omega)
 rw[val_dg,val_dg]at hcmp
 have d1:=dig_dg X
 have d2:=dig_dg Y
 have v1:=val_dg X
 have v2:=val_dg Y
 have hy1:=dg_len_pos hY
 refine Ev.x N.nat_divide rfl rfl ?_
 by_cases hlt:X<Y
 ·have hn:cmpS X Y = -1:=(cmpS_lt (by omega)).symm
  rw[hn]at hcmp
  (repeat' (first|(refine CmpP.go (fun hc => ?_) (fun hc => ?_)<;>first|(exfalso;omega)|(conv=>whnf))|(refine AKM.x ?_;conv=>whnf)|(refine CallP.go (hcmp _ _) ?_;conv=>whnf)|(refine CallP.go (ev_Clone N (dg X) _ (by omega)) ?_;conv=>whnf)))
  refine FinP.go ?_ (cl_pair _ _)
  rw[Nat.div_eq_of_lt hlt,Nat.mod_eq_of_lt hlt,dg_zero];rfl
 have hge:0≤cmpS X Y:=by unfold cmpS;split<;>(try split)<;>omega
 have hll:=dg_len_mono (show Y≤X by omega)
 generalize cmpS X Y=cm at *
 by_cases h1:(dg Y).length=1
 ·-- one digit
  obtain ⟨y0,hy0⟩ : ∃ y0,dg Y=[y0]:=List.length_eq_one_iff.1 h1
  have hyv:Y=y0:=by rw[←v2,hy0];simp [val]
  subst hyv
  have hyb:Y<4294967296:=d2 Y (by rw[hy0];simp)
  have hyg:(dg Y)[0]? = some Y:=by rw[hy0];rfl
  clear hy0 v2
  generalize dg Y=y at *
  generalize hx:dg X=x at *
  (repeat' (first|(refine CmpP.go (fun hc => ?_) (fun hc => ?_)<;>first|(exfalso;omega)|(conv=>whnf))|(refine OpP.add ?_ ?_;omega;conv=>whnf)|(refine OpP.sub ?_ ?_;omega;conv=>whnf)|(refine LenP.go ?_;conv=>whnf)|(refine AKM.x ?_;conv=>whnf)|(refine CallP.go (hcmp _ _) ?_;conv=>whnf)))
  refine MkR.go (enc:=e32) 0 x.length rfl (by omega) (by omega) ?_
  (conv=>whnf)
  (repeat' (first|(refine CmpP.go (fun hc => ?_) (fun hc => ?_)<;>first|(exfalso;omega)|(conv=>whnf))|(refine OpP.sub ?_ ?_;omega;conv=>whnf)|(refine LenP.go ?_;conv=>whnf)))
  refine AKM.loop3 (fun n _ _=>n) (fun (n:Nat) (o:List Nat) (r:Nat)=>n≤x.length∧o.length=x.length∧Dig o∧r<Y∧val (o.drop n)*Y+r=val (x.drop n)) (fun n o r=>[(8,.int .u64 (r:Int)),(9,.int .i64 ((n:Int)-1))]) (fun n o r=>[(28,28,.rw 1 (o.map e32))]) [] [] x.length (List.replicate x.length 0) 0 (by (conv=>whnf);exact ⟨rfl,rfl,rfl⟩) ⟨by omega,by simp,dig_zeros _,by omega,by rw[List.drop_of_length_le (Nat.le_refl _),List.drop_of_length_le (by simp)];simp [val]⟩ ?_
  intro n o r ⟨p1,p2,p3,p4,p5⟩ ih
  rcases n with _|n
  ·rw[List.drop_zero,List.drop_zero]at p5
   have hq:X/Y=val o∧X%Y=r:=by
    rw[←v1,←p5]
    have e1:(val o*Y+r)/Y=val o:=by
     rw[Nat.mul_comm,Nat.mul_add_div (by omega),Nat.div_eq_of_lt p4,Nat.add_zero]
    have e2:(val o*Y+r)%Y=r:=by
     rw[Nat.mul_comm,Nat.mul_add_mod,Nat.mod_eq_of_lt p4]
    exact ⟨e1,e2⟩
   rw[hq.1,hq.2,←p2]
   clear ih hq p5
   have hl1:=dg_len_val p3
   have hr1:Dig [r]:=dig_one (by omega)
   have hl2:=dg_len_val hr1
   have hv1:val [r]=r:=by simp [val]
   have hl3:[r].length=1:=rfl
   (repeat' (first|(refine CmpP.go (fun hc => ?_) (fun hc => ?_)<;>first|(exfalso;omega)|(conv=>whnf))|(refine ConvP.n32i ?_ ?_;omega;conv=>whnf)|(refine AKM.x ?_;conv=>whnf)|(refine CalP.cutR N (by assumption) (by omega) rfl (by first|rfl|omega|assumption) ?_;conv=>whnf)))
   refine SnR.part (enc:=e32) (fun _=>rfl) (by omega) ?_
   (conv=>whnf)
   refine SnR.part (enc:=e32) (l:=[r]) (fun _=>rfl) (by omega) ?_
   (conv=>whnf)
   refine FinP.go ?_ (cl_pair _ _)
   rw[List.drop_zero,List.drop_zero,take_dg p3,take_dg hr1,hv1]
  ·have e1:((n+1:Nat):Int)-1=n:=by omega
   rw[e1]
   obtain ⟨d,hd⟩ : ∃ d,x[n]? = some d:=⟨_,zE (by omega)⟩
   have hdb:=d1.at hd
   have hYb:Y<4294967296:=hyb
   have hR:r*4294967296+d<Y*4294967296:=by omega
   have hq0:(r*4294967296+d)/Y<4294967296:=(Nat.div_lt_iff_lt_mul (by omega)).2 (by omega)
   (repeat' (first|(refine CmpP.go (fun hc => ?_) (fun hc => ?_)<;>first|(exfalso;omega)|(conv=>whnf))|(refine Req.go ?_ ?_;omega;conv=>whnf)|(refine OpP.nshl32 ?_ ?_;omega;conv=>whnf)|(refine OpP.nor ?_ ?_;omega;conv=>whnf)|(refine OpP.nquo ?_ ?_ ?_;omega;omega;conv=>whnf)|(refine ConvP.u64 ?_ ?_;omega;conv=>whnf)|(refine ConvP.n32i ?_ ?_;omega;conv=>whnf)|(refine RdP.at (by assumption) ?_ rfl ?_;omega;conv=>whnf)|(refine AKM.x ?_;conv=>whnf)))
   obtain ⟨t,ht⟩ : ∃ t,t=r*4294967296+d:=⟨_,rfl⟩
   rw[←ht]at hR hq0 ⊢
   have hm:t%Y<Y:=Nat.mod_lt _ (by omega)
   have hst:=small_step p5 ht
   rw[←val_getD_drop hd]at hst
   clear ht
   skip
   refine StR.dig (by omega) ?_
   (conv=>whnf)
   (repeat' (first|(refine OpP.sub ?_ ?_;omega;conv=>whnf)|(refine OpP.nrem ?_ ?_;omega;conv=>whnf)|(refine ConvP.u64 ?_ ?_;omega;conv=>whnf)|(refine RdP.at (by assumption) ?_ rfl ?_;omega;conv=>whnf)))
   generalize t/Y=tq at *
   generalize t%Y=tr at *
   refine AKM.back [] (by (conv=>whnf);exact ⟨rfl,rfl,rfl⟩) (ih n _ _ (by omega) ⟨by omega,by simpa using p2,p3.set _ (by omega),hm,?_⟩)
   rw[val_getD_drop (l:=o.set n tq) (d:=tq) (by rw[List.getElem?_set_self (by omega)]),List.drop_set_of_lt (by omega)]
   exact hst
 ·-- two digits or more
  have hn2:2≤(dg Y).length:=by omega
  obtain ⟨yt,hyt,hyt0⟩:=dg_top hY
  have hytb:=d2.at hyt
  obtain ⟨b1,b2,b3,b4⟩:=lz_top hyt0 hytb
  have hlz:=ev_LZ32 N yt hytb
  generalize hs:32-blen yt=s at *
  have hs31:s≤31:=by omega
  generalize dg Y=y at *
  generalize hx:dg X=x at *
  have e1:((y.length:Int)-1).toNat=y.length-1:=by omega
  rw[←e1]at hyt
  obtain ⟨rv,hrv,v,hV,hvl,hrve⟩:=ev_nat_lift N y q2 s y.length d2 hs31 (by omega) (by omega)
  subst hrve
  (repeat' (first|(refine CmpP.go (fun hc => ?_) (fun hc => ?_)<;>first|(exfalso;omega)|(conv=>whnf))|(refine OpP.add ?_ ?_;omega;conv=>whnf)|(refine OpP.sub ?_ ?_;omega;conv=>whnf)|(refine LenP.go ?_;conv=>whnf)|(refine AKM.x ?_;conv=>whnf)|(refine CallP.go (hcmp _ _) ?_;conv=>whnf)))
  refine MkR.go (enc:=e32) 0 (x.length-y.length+1) rfl (by omega) (by omega) ?_
  (conv=>whnf)
  (repeat' (first|(refine CmpP.go (fun hc => ?_) (fun hc => ?_)<;>first|(exfalso;omega)|(conv=>whnf))|(refine OpP.add ?_ ?_;omega;conv=>whnf)|(refine OpP.sub ?_ ?_;omega;conv=>whnf)|(refine ConvP.u64 ?_ ?_;omega;conv=>whnf)|(refine LenP.go ?_;conv=>whnf)|(refine RdP.at (by assumption) ?_ rfl ?_;omega;conv=>whnf)|(refine CallP.go (hlz) ?_;conv=>whnf)))
  refine CalP.walk 1000 N.nat_lift rfl rfl ?_
  (repeat' (refine AKM.x ?_;conv=>whnf))
  refine MkR.go (enc:=e32) 0 (x.length+1) rfl (by omega) (by omega) ?_
  (conv=>whnf)
  (repeat' (refine LenP.go ?_;conv=>whnf))
  have hps:=pow_s_le (s:=s) (by omega)
  refine AKM.loop3 (fun i _ _=>x.length-i) (fun (i:Nat) (o:List Nat) (lo:Nat)=>i≤x.length∧o.length=x.length+1∧Dig o∧lo<2^s∧val (o.take i)+4294967296^i*lo=val (x.take i)*2^s) (fun i o lo=>[(8,.int .u32 (lo:Int)),(15,.int .i64 i)]) (fun i o lo=>[(71012,71012,.rw 1 (o.map e32))]) [] [] 0 (List.replicate (x.length+1) 0) 0 (by (conv=>whnf);exact ⟨rfl,rfl,rfl⟩) ⟨by omega,by simp,dig_zeros _,Nat.two_pow_pos s,by simp [val]⟩ ?_
  intro i o lo ⟨p1,p2,p3,p4,p5⟩ ih
  by_cases hi:i<x.length
  ·obtain ⟨d,hd⟩ : ∃ d,x[i]? = some d:=⟨_,zE hi⟩
   have hdb:=d1.at hd
   obtain ⟨f1,f2,f3,f4⟩:=sh_facts (s:=s) hdb (by omega)
   (repeat' (first|(refine CmpP.go (fun hc => ?_) (fun hc => ?_)<;>first|(exfalso;omega)|(conv=>whnf))|(refine RdP.at (by assumption) ?_ rfl ?_;omega;conv=>whnf)|(refine AKM.x ?_;conv=>whnf)))
   refine OpP.sh4 (by omega) ?_
   (conv=>whnf)
   skip
   refine OpP.or4 s f1 p4 (by omega) ?_
   (conv=>whnf)
   (repeat' (first|(refine Req.go ?_ ?_;omega;conv=>whnf)|fail))
   refine StR.dig (by omega) ?_
   (conv=>whnf)
   (repeat' (refine ConvP.u64 ?_ ?_;omega;conv=>whnf))
   refine OpP.sh8 (by omega) f4 ?_
   (conv=>whnf)
   (repeat' (first|(refine OpP.add ?_ ?_;omega;conv=>whnf)|(refine OpP.nshr32 ?_;conv=>whnf)|(refine ConvP.n32i ?_ ?_;omega;conv=>whnf)))
   rw[←shHi_def]
   refine AKM.back [] (by (conv=>whnf);exact ⟨rfl,rfl,rfl⟩) (ih (i+1) _ _ (by omega) ⟨by omega,by simpa using p2,p3.set _ (by omega),f2,?_⟩)
   rw[val_set_take (by omega),val_take_succ hd,Nat.pow_succ]
   exact lift_step p5
  obtain rfl:i=x.length:=by omega
  clear ih
  (repeat' (first|(refine CmpP.go (fun hc => ?_) (fun hc => ?_)<;>first|(exfalso;omega)|(conv=>whnf))|(refine Req.go ?_ ?_;omega;conv=>whnf)|(refine LenP.go ?_;conv=>whnf)|(refine AKM.x ?_;conv=>whnf)))
  refine StR.dig (by omega) ?_
  (conv=>whnf)
  skip
  have hU:=lift_end2 p3 (by omega) p2 p5
  have hUl:(o.set x.length lo).length=x.length+1:=by simpa using p2
  clear p3 p4 p5 p2
  generalize o.set x.length lo=u at *
  refine ⟨rfl,_,rfl,?_⟩
  (conv=>whnf)
  (repeat' (first|(refine OpP.sub ?_ ?_;omega;conv=>whnf)|(refine LenP.go ?_;conv=>whnf)|(refine CallP.go (hrv) ?_;conv=>whnf)))
  have hyt':y[y.length-1]? = some yt:=by rw[←e1];exact hyt
  obtain ⟨n1,n2⟩:=lift_norm d2 hyt' (by omega) hs31 b3 b4
  have hVv:val v=Y*2^s:=by rw[←v2];exact hV.2.2 (by rw[hvl];exact n1)
  have hUu:val u=X*2^s:=by
   rw[←v1]
   refine hU.2.2 ?_
   have h3:=val_lt d1
   rw[hUl,Nat.pow_succ]
   exact Nat.lt_of_lt_of_le (Nat.mul_lt_mul_of_pos_right h3 (Nat.two_pow_pos s)) (Nat.mul_le_mul_left _ hps)
  have hVD:=hV.1
  have hUD:=hU.1
  have hVlt:=val_lt hVD
  rw[v2,←hVv]at n2
  rw[←hvl]at n2
  clear hV hU hcmp hrv hlz
  have hv2l:2≤v.length:=by omega
  have hvx:v.length≤x.length:=by omega
  have hvL:v.length≤549755813888:=by omega
  have hxL:x.length≤549755813888:=by omega
  have hX:X<4294967296^x.length:=by rw[←v1];exact val_lt d1
  rw[←hvl]
  generalize hm:x.length-v.length+1=m at *
  have hV0:0<val v:=by
   have:=pow_pos' (v.length-1)
   omega
  have hi0:val (u.drop m)<val v:=by
   have h1:=val_split u m (by omega)
   rw[hUu]at h1
   have h2:X*2^s<4294967296^x.length*2147483648:=Nat.lt_of_lt_of_le (Nat.mul_lt_mul_of_pos_right hX (Nat.two_pow_pos s)) (Nat.mul_le_mul_left _ (Nat.pow_le_pow_right (by omega) hs31))
   have h3:4294967296^x.length=4294967296^m*4294967296^(v.length-1):=by rw[←Nat.pow_add];congr 1;omega
   rw[h3,Nat.mul_assoc]at h2
   refine Nat.lt_of_lt_of_le ?_ n2
   refine Nat.lt_of_mul_lt_mul_left (a:=4294967296^m) ?_
   omega
  have e2:(x.length:Int)-v.length=((m:Nat):Int)-1:=by omega
  rw[e2]
  refine AKM.loop3 (fun n _ _=>n) (fun (n:Nat) (o w:List Nat)=>n≤m∧o.length=x.length+1∧Dig o∧w.length=m∧Dig w∧val (o.drop n)<val v∧X*2^s=val (o.take n)+4294967296^n*(val (w.drop n)*val v+val (o.drop n))) (fun n o w=>[(14,.int .i64 ((n:Int)-1))]) (fun n o w=>[(71012,71012,.rw 1 (o.map e32)),(28,28,.rw 1 (w.map e32))]) [] [] m u (List.replicate m 0) (by (conv=>whnf);exact ⟨rfl,rfl,rfl⟩) ⟨by omega,hUl,hUD,by simp,dig_zeros _,hi0,by rw[←hUu,List.drop_of_length_le (show (List.replicate m 0).length≤m by simp),val_nil,Nat.zero_mul,Nat.zero_add];exact val_split u m (by omega)⟩ ?_
  intro n o w ⟨p1,p2,p3,p4,p5,p6,p7⟩ ih
  rcases n with _|j
  ·clear ih
   rw[List.drop_zero]at p6
   rw[List.take_zero,List.drop_zero,List.drop_zero,val_nil,Nat.zero_add,Nat.pow_zero,Nat.one_mul]at p7
   have hdr:val o=val (o.take v.length):=by
    have h1:=val_splitD o v.length
    rcases Nat.eq_zero_or_pos (val (o.drop v.length)) with h2|h2
    ·rw[h2,Nat.mul_zero,Nat.add_zero]at h1;exact h1
    ·have h3:4294967296^v.length*1≤4294967296^v.length*val (o.drop v.length):=Nat.mul_le_mul_left _ h2
     omega
   have hX0:X/Y=val w∧X%Y=val o/2^s:=by
    obtain ⟨z1,z2⟩:=div_scale (X:=X) (Y:=Y) (Nat.two_pow_pos s)
    rw[←z1,←z2,←hVv,p7]
    have e1:(val w*val v+val o)/val v=val w:=by
     rw[Nat.mul_comm,Nat.mul_add_div hV0,Nat.div_eq_of_lt p6,Nat.add_zero]
    have e2:(val w*val v+val o)%val v=val o:=by
     rw[Nat.mul_comm,Nat.mul_add_mod,Nat.mod_eq_of_lt p6]
    rw[e1,e2]
    exact ⟨rfl,rfl⟩
   rw[hX0.1,hX0.2]
   have hl1:=dg_len_val p5
   obtain ⟨ro,hro,o2,k1,k2,k3,k4⟩:=ev_nat_lower N (o.take v.length) true s (p3.take _) hs31 (by rw[List.length_take];omega)
   subst k4
   rw[hdr,←k3]
   have hl2:=dg_len_val k1
   rw[List.length_take]at k2
   clear p7 hX0 hi0
   (repeat' (first|(refine CmpP.go (fun hc => ?_) (fun hc => ?_)<;>first|(exfalso;omega)|(conv=>whnf))|(refine AKM.x ?_;conv=>whnf)|(refine CalP.cutR N (by assumption) (by omega) rfl (by first|rfl|omega|assumption) ?_;conv=>whnf)))
   refine Bds.up v.length rfl (by omega) ?_
   (conv=>whnf)
   refine SnR.part (enc:=e32) (fun _=>rfl) (by omega) ?_
   (conv=>whnf)
   rw[List.drop_zero,Nat.sub_zero]
   (repeat' (first|(refine CallP.go (hro) ?_;conv=>whnf)|(refine CalP.ro (ro_cut N o2 _ k1 (by omega)) ?_;conv=>whnf)))
   refine SnR.part (enc:=e32) (fun _=>rfl) (by omega) ?_
   (conv=>whnf)
   refine FinP.go ?_ (cl_pair _ _)
   rw[List.drop_zero,take_dg p5]
  ·have e3:((j+1:Nat):Int)-1=j:=by omega
   rw[e3]
   have e4:(v.length:Int).toNat=v.length:=by omega
   obtain ⟨A,W,C,hA,hW,rfl⟩:=dv_cut o j (v.length+1) (by omega)
   obtain ⟨g1,g2,g3⟩:=dv_pre hA hW p3 p6 hVlt
   obtain ⟨D1,D2,D3⟩:=dig_win p3
   have hqb:val W/val v<4294967296:=(Nat.div_lt_iff_lt_mul hV0).2 g2
   have hWV:val W=val W/val v*val v+val W%val v:=by rw[Nat.mul_comm];exact (Nat.div_add_mod _ _).symm
   have hWl:val W%val v<val v:=Nat.mod_lt _ hV0
   have hTot:X*2^s=val A+4294967296^j*val W+4294967296^j*4294967296*(val (w.drop (j+1))*val v):=by
    rw[p7,Nat.mul_add,←g3,Nat.pow_succ];omega
   have hTot2:=dv_next hTot hWV
   have hset : ∀ q',q'=val W/val v→val ((w.set j q').drop j)=val W/val v+4294967296*val (w.drop (j+1)):=fun q' h=>by
    rw[val_getD_drop (l:=w.set j q') (d:=q') (by rw[List.getElem?_set_self (by omega)]),List.drop_set_of_lt (by omega),h]
   have hlen : ∀ W':List Nat,W'.length=v.length+1→(A++W'++C).length=x.length+1:=fun W' h=>by
    rw[←p2];simp [h,hW]
   (repeat' (first|(refine CmpP.go (fun hc => ?_) (fun hc => ?_)<;>first|(exfalso;omega)|(conv=>whnf))|(refine OpP.add ?_ ?_;omega;conv=>whnf)|(refine Bds.ss ?_ ?_;omega;conv=>whnf)|(refine AKM.x ?_;conv=>whnf)))
   rw[show ((j:Int)+v.length+1).toNat-(j:Int).toNat=v.length+1 by omega,show 0+(j:Int).toNat=j by omega]
   refine digit_walk N hA hW D2 hVD hv2l hvL hV0 n2 g2 (fun W' o' q' z1 z2 z3 z4 => ?_) (fun W' o' q' z1 z2 z3 z4 => ?_)
   ·(conv=>whnf)
    (repeat' (first|(refine Req.go ?_ ?_;omega;conv=>whnf)|fail))
    refine StR.dig (by omega) ?_
    (conv=>whnf)
    (repeat' (refine OpP.sub ?_ ?_;omega;conv=>whnf))
    obtain ⟨t1,t2⟩:=dv_post (A:=A) (W:=W') (C:=C) (j:=j) hA g1
    refine AKM.back [] (by (conv=>whnf);exact ⟨rfl,rfl,rfl⟩) (ih j (A++W'++C) (w.set j q') (by omega) ⟨by omega,hlen W' z1,(D1.append z2).append D3,by simpa using p4,p5.set _ (by omega),by omega,?_⟩)
    rw[t1,t2,hset q' z4,z3]
    exact hTot2
   ·(conv=>whnf)
    (repeat' (first|(refine Req.go ?_ ?_;omega;conv=>whnf)|fail))
    refine StR.dig (by omega) ?_
    (conv=>whnf)
    (repeat' (refine OpP.sub ?_ ?_;omega;conv=>whnf))
    obtain ⟨t1,t2⟩:=dv_post (A:=A) (W:=W') (C:=C) (j:=j) hA g1
    refine AKM.back [] (by (conv=>whnf);exact ⟨rfl,rfl,rfl⟩) (ih j (A++W'++C) (w.set j q') (by omega) ⟨by omega,hlen W' z1,(D1.append z2).append D3,by simpa using p4,p5.set _ (by omega),by omega,?_⟩)
    rw[t1,t2,hset q' z4,z3]
    exact hTot2
end Go.Eng
