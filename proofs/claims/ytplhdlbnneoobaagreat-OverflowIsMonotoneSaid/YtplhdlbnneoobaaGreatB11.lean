/-
  State-space forms (layer 27), the program: zeros, at, degree, Valid, Controller.
-/
import Derived.Test.YtplhdlbnneoobaaGreatB10
import Derived.Test.YtplhdlbnneoobaaGreatB9
import Derived.Test.YtplhdlbnneoobaaGreatB1
import Derived.Test.YtplhdlbnneoobaaGreatB4
import Derived.Test.YtplhdlbnneoobaaGreatB7
set_option linter.unusedSimpArgs false
set_option linter.unusedVariables false
set_option linter.unnecessarySimpa false
namespace Go.b7
open F
attribute [local irreducible] AA AF AM AC BT AQ A5 AZ BG A9 BS CN BH AU BI BR AB A1 AJ pw B1 BQ B9 CM CH BF BV BB B5
variable {L:Lib}
set_option maxHeartbeats 16000000
theorem Ts (N:o4 L) (m:Nat) (hm:m<=65536):OJ L 206 [.int .i64 (m:Int)] 3 ((List.replicate m (0:Rat)).map eQ):=by
 have hO:=E2 N.toa6 0 (by omega);refine OJ.x N.N8 rfl rfl ?_;(repeat' (apply AE<;>conv=>whnf))
 refine DP (enc:=eO) none m rfl rfl (by omega) ?_;(conv=>whnf)
 skip
 refine CK (λ i=>m-i) (λ(i:Nat)=>i<=m) (λ i=>[(8,.int .i64 i)]) (λ i=>[(6,6,.rw 3 ((BW (List.replicate i 0) m).map eO))]) [] [] 0 (by first|exact (by (conv=>whnf);exact ⟨rfl,rfl,rfl⟩)|(rw[<-RS];exact (by (conv=>whnf);exact ⟨rfl,rfl,rfl⟩))) (by omega) ?_;intro i p1 ih;by_cases hi:i<m
 ·have hl:=HO (l:=List.replicate i (0:Rat)) (m:=m) (by simp;omega)
  have hs:=K5 (l:=List.replicate i (0:Rat)) (m:=m) (x:=0) (by simp;omega);rw[List.length_replicate]at hs;(repeat' ((first|(apply AG<;>intro hc<;>try (exfalso;omega))|(apply A3;omega)|apply AE|refine AD (hO) ?_)<;>conv=>whnf))
  refine JA (enc:=eO) (some 0) rfl (λ e=>by cases e<;>rfl) (by omega) ?_;(conv=>whnf)
  (repeat' ((first|(apply AR;omega)|fail)<;>conv=>whnf))
  rw[hs];rw[show List.replicate i (0:Rat)++[0]=List.replicate (i+1) 0 by rw[List.replicate_succ']];exact BO [] (ih (i+1) (by omega) (by omega))
 obtain rfl:i=m:=by omega
 clear ih;rw[PU (by simp)];(repeat' ((first|(apply AG<;>intro hc<;>try (exfalso;omega))|apply AE)<;>conv=>whnf))
 exact ⟨rfl,rfl,by simp,rfl,KC _⟩
theorem cM (N:o4 L) (q:Bool) (l:List Rat) (i:Int) (k:Nat) (h0:0<=i) (hl:Bs k l) (hk:k<2199023255552) (hn:l.length<=1000000):Ev L 205 [.sl q (l.map eQ),.int .i64 i] (.agg (eQ (l.getD i.toNat 0))):=by
 have hO:=E2 N.toa6 0 (by omega);refine Ev.x N.N6 rfl rfl ?_;by_cases hi:i<l.length
 ·obtain ⟨x,hx⟩ : ∃ x,l[i.toNat]? = some x:=⟨_,zE (by omega)⟩
  have hT:=nY N.toa6 (hl.at hx) hk;rw[X3 hx];(repeat' ((first|(apply AG<;>intro hc<;>try (exfalso;omega))|apply AY|(refine BC (by assumption) ?_ rfl ?_;omega)|apply AE|refine AD (hT) ?_)<;>conv=>whnf))
  exact AW rfl (DH _)
 ·rw[Ss (l:=l) (by omega)]
  (repeat' ((first|(apply AG<;>intro hc<;>try (exfalso;omega))|apply AY|apply AE|refine AD (hO) ?_)<;>conv=>whnf))
  exact AW rfl (DH _)
theorem nX (N:o4 L) (q:Bool) (l:List Rat) (k:Nat) (ht:O9 l=l) (hl:Bs k l) (hk:k<2199023255552) (hn:l.length<=1000000):Ev L 204 [.sl q (l.map eQ)] (.int .i64 ((l.length-1:Nat):Int)):=by
 refine Ev.x N.N7 rfl rfl ?_;(repeat' ((first|(apply BM;omega)|apply AY|apply AE)<;>conv=>whnf))
 refine FB ?_;by_cases h2:l.length<=1
 ·(repeat' ((first|(apply AG<;>intro hc<;>try (exfalso;omega))|apply AE)<;>conv=>whnf))
  exact CP (by omega)
 ·obtain ⟨x,hx⟩ : ∃ x,l[l.length-1]? = some x:=⟨_,zE (by omega)⟩
  have rn:l[((l.length:Int)-1).toNat]? = some x:=by rw[show ((l.length:Int)-1).toNat=l.length-1 by omega];exact hx
  have Lx:=Agp ht (by omega);rw[X3 hx]at Lx;have hS:=PT N.toa6 (hl.at hx) hk;have hs:=N4 (x:=x);generalize q9 x.num=s at *;have oc:s≠0:=λ h=>Lx (hs.1 h)
  (repeat' ((first|(apply AG<;>intro hc<;>try (exfalso;omega))|(refine BC (by assumption) ?_ rfl ?_;omega)|apply AE|refine AD (hS) ?_)<;>conv=>whnf))
  exact CP (by omega)
theorem Tl (N:o4 L) (q1 q2:Bool) (B A:List Rat) (k:Nat) (hB:Bs k B) (hA:Bs k A) (hk:k<2199023255552) (lB:B.length<=49) (lA:A.length<=49) (h0:A[0]? = some 1):Ev L 201 [.agg [.sl q1 (B.map eQ),.sl q2 (A.map eQ)]] (.bool true):=by
 have c1:=UX B B.length;have c2:=UX A A.length;have nf:=nM N q1 B k hB hk (by omega);have ng:=nM N q2 A k hA hk (by omega);have hO:=E2 N.toa6 1 (by omega);have hC:=TC N (Bt.one 1) (Bt.one 1) (by omega) (by omega);rw[sT.2 rfl]at hC;have hAl:0<A.length:=(zS h0).1;have sf:A[(0:Int).toNat]? = some 1:=h0;generalize H2 B B.length=d1 at *;generalize H2 A A.length=d2 at *;refine Ev.x N.N0 rfl rfl ?_;(repeat' ((first|(apply AG<;>intro hc<;>try (exfalso;omega))|apply AY|(refine BC (by assumption) ?_ rfl ?_;omega)|apply AE|refine AD (nf) ?_|refine AD (ng) ?_|refine AD (hO) ?_|refine AD (hC) ?_)<;>conv=>whnf))
 exact G7 rfl
theorem Np (B A:List Rat) (m:Nat):(E9 B A (m+1)).a.take 1=[(List.range (m+1)).map λ k => -(A.getD (k+1) 0)]:=by
 simp [E9,List.range_succ_eq_map]
theorem Nq {B A:List Rat} {n i:Nat} (h1:1<=i) (hi:i<n):(E9 B A n).a[i]? = some (D4 n ((i-1:Nat):Int)):=by
 simp only[E9,List.getElem?_map,List.getElem?_range hi,Option.map_some];rw[if_neg (by omega)]
theorem kW {B A:List Rat} {n i:Nat} (hi:i<n):(E9 B A n).c[i]? = some (B.getD (i+1) 0-B.getD 0 0*A.getD (i+1) 0):=by
 simp only[E9,List.getElem?_map,List.getElem?_range hi,Option.map_some]
theorem Ns (B A:List Rat) (m:Nat):(E9 B A (m+1)).c.take 1=[B.getD 1 0-B.getD 0 0*A.getD 1 0]:=by
 rw[List.take_add_one,kW (by omega)];rfl
theorem Nr (B A:List Rat) (n:Nat):(E9 B A n).a.length=n:=by simp [E9]
theorem Nu (B A:List Rat) (n:Nat):(E9 B A n).c.length=n:=by simp [E9]
theorem IB {α:Type} {l:List α} {i:Nat} {x:α} (h:l[i]? = some x):l.take (i+1)=l.take i++[x]:=by
 rw[List.take_add_one,h];rfl
theorem Oz (S:IH) (e:Int):A4 (.g8 [.agg (eS S),.int .i64 e]):=by
 have:=Oy S
 simp only[A4,CB,true_and,and_true]at this ⊢;exact this
theorem Qb (N:o4 L) (w1 w2:Bool) (B A:List Rat) (n k:Nat) (hB:O9 B=B) (hA:O9 A=A) (bB:Bs k B) (bA:Bs k A) (lB:B.length<=17) (lA:A.length<=17) (h0:A[0]? = some 1) (hn:max (B.length-1) (A.length-1)=n) (hk:k<=1000000) :
  Ev L 207 [.agg [.sl w1 (B.map eQ),.sl w2 (A.map eQ)]] (.g8 [.agg (eS (E9 B A n)),.int .i64 0]):=by
 have hV:=Tl N w1 w2 B A k bB bA (by omega) (by omega) (by omega) h0;have nf:=nX N w1 B k hB bB (by omega) (by omega);have ng:=nX N w2 A k hA bA (by omega) (by omega);have hO:=E2 N.toa6 1 (by omega);have ov:=cM N w1 B 0 k (by omega) bB (by omega) (by omega);rw[show B.getD (0:Int).toNat 0=B.getD 0 0 from rfl]at ov;have hZ:=Ts N n (by omega);have Jp:Bt k (B.getD 0 0):=VJ bB 0;have zh : ∀ i:Nat,Ev L 205 [.sl w1 (B.map eQ),.int .i64 ((i:Int)+1)] (.agg (eQ (B.getD (i+1) 0)))/\Ev L 205 [.sl w2 (A.map eQ),.int .i64 ((i:Int)+1)] (.agg (eQ (A.getD (i+1) 0))) /\
   Ev L 99 [.agg (eQ (B.getD 0 0)),.agg (eQ (A.getD (i+1) 0))] (.agg (eQ (B.getD 0 0*A.getD (i+1) 0)))/\Ev L 150 [.agg (eQ (B.getD (i+1) 0)),.agg (eQ (B.getD 0 0*A.getD (i+1) 0))] (.agg (eQ (B.getD (i+1) 0-B.getD 0 0*A.getD (i+1) 0))) /\
   Ev L 199 [.agg (eQ (A.getD (i+1) 0))] (.agg (eQ (-(A.getD (i+1) 0)))):=λ i=>by
  have e1:=cM N w1 B ((i:Int)+1) k (by omega) bB (by omega) (by omega);have e2:=cM N w2 A ((i:Int)+1) k (by omega) bA (by omega) (by omega);rw[show ((i:Int)+1).toNat=i+1 by omega]at e1 e2;exact ⟨e1,e2,F3 N.toa6 Jp (VJ bA _) (by omega) (by omega),Tu N.tov3 (VJ bB _) (Jp.mul (VJ bA _)) (by omega) (by omega),Us N (VJ bA _) (by omega)⟩
 have hd:(E9 B A n).d=B.getD 0 0:=rfl;have df:=Nr B A n;have n6:=Nu B A n;have lu:eS (E9 B A n)=[.sl false ((E9 B A n).a.map λ r=>[AV.sl false (r.map eQ)]),.sl false ((D4 n 0).map eQ),.sl false ((E9 B A n).c.map eQ)]++eQ (B.getD 0 0):=rfl;have v5:=Oz (E9 B A n) 0;rw[lu]at v5 ⊢;have Kq : ∀ i,1<=i->i<n->(E9 B A n).a[i]? = some (D4 n ((i-1:Nat):Int)):=λ i h1 h2=>Nq h1 h2
 have Bh : ∀ i,i<n->(E9 B A n).c[i]? = some (B.getD (i+1) 0-B.getD 0 0*A.getD (i+1) 0):=λ i h=>kW h
 have Dy:0<n->(E9 B A n).a.take 1=[(List.range n).map λ k => -(A.getD (k+1) 0)]:=λ h=>by
  obtain ⟨m,rfl⟩ : ∃ m,n=m+1:=⟨n-1,by omega⟩;exact Np B A m
 have ta:0<n->(E9 B A n).c.take 1=[B.getD (0+1) 0-B.getD 0 0*A.getD (0+1) 0]:=λ h=>by
  obtain ⟨m,rfl⟩ : ∃ m,n=m+1:=⟨n-1,by omega⟩;exact Ns B A m
 have lq : ∀ j,j<n->((List.range n).map λ k => -(A.getD (k+1) 0))[j]? = some (-(A.getD (j+1) 0)):=λ j h=>by
  rw[List.getElem?_map,List.getElem?_range h];rfl
 have Ck:((List.range n).map λ k => -(A.getD (k+1) 0)).length=n:=by simp
 have fu : ∀ j,(D4 n j).length=n:=λ j=>T9 n j
 generalize (E9 B A n).a=a at *;generalize (E9 B A n).c=c at *;generalize (List.range n).map (λ k => -(A.getD (k+1) 0))=r0 at *;generalize B.getD 0 0=b0 at *;rcases Nat.lt_or_ge (B.length-1) (A.length-1) with k6|jl
 ·rw[show A.length-1=n by omega]at ng k6
  refine Ev.x N.J4 rfl rfl ?_;(repeat' ((first|(apply AG<;>intro hc<;>try (exfalso;omega))|apply AE|refine AD (hV) ?_|refine AD (nf) ?_|refine AD (ng) ?_|refine AD (ov) ?_)<;>conv=>whnf))
  refine Q2 (enc:=eQ) n hZ (by simp) ?_;(conv=>whnf)
  by_cases nx:n=0
  ·skip
   exact absurd k6 (by omega)
  ·(repeat' ((first|(apply AG<;>intro hc<;>try (exfalso;omega))|(apply A3;omega)|refine AD (hO) ?_)<;>conv=>whnf))
   refine GC (enc:=eQ) 0 1 rfl rfl (λ_=>rfl) (by simp;omega) ?_;(conv=>whnf)
   rw[show (List.replicate n (0:Rat)).set 0 1=D4 n 0 from UA n 0];skip
   refine FB ?_;(repeat' ((first|(apply AG<;>intro hc<;>try (exfalso;omega))|apply AE)<;>conv=>whnf))
   refine Q2 (enc:=eQ) n hZ (by simp) ?_;(conv=>whnf)
   (repeat' ((first|(apply AG<;>intro hc<;>try (exfalso;omega))|fail)<;>conv=>whnf))
   refine CK (λ j=>n-j) (λ(j:Nat)=>j<=n) (λ j=>[(50,.int .i64 j)]) (λ j=>[(41,41,.rw 3 ((cz r0 n j).map eQ))]) [] [] 0 (by first|exact (by (conv=>whnf);exact ⟨rfl,rfl,rfl⟩)|(rw[lE];exact (by (conv=>whnf);exact ⟨rfl,rfl,rfl⟩))) (by omega) ?_;intro j p1 ih;have pf:=lC (row:=r0) p1;by_cases hj:j<n
   ·have j9:=lD (lq j hj) hj
    obtain ⟨f1,f2,f3,f4,f5⟩:=zh j;(repeat' ((first|(apply AG<;>intro hc<;>try (exfalso;omega))|(apply A3;omega)|(apply AR;omega)|apply AE|refine AD (f2) ?_|refine AD (f5) ?_)<;>conv=>whnf))
    refine JA (enc:=eQ) (-(A.getD (j+1) 0)) rfl (λ_=>rfl) (by omega) ?_;(conv=>whnf)
    (repeat' ((first|(apply AR;omega)|fail)<;>conv=>whnf))
    rw[j9];exact BO [] (ih (j+1) (by omega) (by omega))
   obtain rfl:j=n:=by omega
   clear ih;rw[kZ Ck];obtain ⟨f1,f2,f3,f4,f5⟩:=zh 0;(repeat' ((first|(apply AG<;>intro hc<;>try (exfalso;omega))|apply AE)<;>conv=>whnf))
   refine A3 ⟨by rw[List.length_map];omega,by omega⟩ ?_;(conv=>whnf)
   (repeat' ((first|(apply AR;omega)|apply EF|refine AD (ov) ?_|refine AD (f1) ?_|refine AD (f2) ?_|refine AD (f3) ?_|refine AD (f4) ?_)<;>conv=>whnf))
   refine SU (enc:=eQ) (B.getD (0+1) 0-b0*A.getD (0+1) 0) rfl rfl (by omega) ?_;(conv=>whnf)
   (repeat' ((first|(apply AR;omega)|fail)<;>conv=>whnf))
   refine CK (λ i=>j-i) (λ(i:Nat)=>1<=i/\i<=j) (λ i=>[(37,.int .i64 i)]) (λ i=>[(5,5,.bx ([.row 67 0 1 0 i,.row 28 0 3 0 j,.row 88 0 3 0 i]++eQ b0)),(67,67,.mx (ET 3 eQ (a.take i))),(88,88,.rw 3 ((c.take i).map eQ))]) [] [] 1 (by first|exact (by (conv=>whnf);exact ⟨rfl,rfl,rfl⟩)|(rw[Dy (by omega),ta (by omega)];exact (by (conv=>whnf);exact ⟨rfl,rfl,rfl⟩))) (by omega) ?_;intro i ⟨g1,g2⟩ ih;have wy:(a.take i).length=i:=by rw[List.length_take];omega
   have xd:(c.take i).length=i:=by rw[List.length_take];omega
   by_cases hi:i<j
   ·obtain ⟨f1,f2,f3,f4,f5⟩:=zh i
    have Ij:=IB (Kq i g1 hi);have Ik:=IB (Bh i hi);have wz:(a.take (i+1)).length=i+1:=by rw[List.length_take];omega
    have xe:(c.take (i+1)).length=i+1:=by rw[List.length_take];omega
    have Iv:=fu ((i-1:Nat):Int);(repeat' ((first|(apply AG<;>intro hc<;>try (exfalso;omega))|apply AE)<;>conv=>whnf))
    refine Q2 (enc:=eQ) j hZ (by simp) ?_;(conv=>whnf)
    (repeat' ((first|(apply AG<;>intro hc<;>try (exfalso;omega))|(apply A3;omega)|(apply BM;omega)|refine AD (hO) ?_)<;>conv=>whnf))
    refine GC (enc:=eQ) (i-1) 1 (by omega) rfl (λ_=>rfl) (by simp;omega) ?_;(conv=>whnf)
    rw[UA];skip
    refine A3 (by rw[List.length_map];omega) ?_;refine iG (r:=D4 j ((i-1:Nat):Int)) (en:=eQ) wy.symm (by omega) (by omega) ?_;rw[<-Ij,wz];(conv=>whnf)
    (repeat' ((first|(apply AR;omega)|apply EF|refine AD (ov) ?_|refine AD (f1) ?_|refine AD (f2) ?_|refine AD (f3) ?_|refine AD (f4) ?_)<;>conv=>whnf))
    refine FV (enc:=eQ) (B.getD (i+1) 0-b0*A.getD (i+1) 0) rfl xd.symm rfl (by omega) (by omega) ?_;rw[<-Ik,xe];(conv=>whnf)
    (repeat' ((first|(apply AR;omega)|fail)<;>conv=>whnf))
    exact BO [(67,1000067),(88,1000088)] (ih (i+1) (by omega) (by omega))
   obtain rfl:i=j:=by omega
   clear ih;rw[List.take_of_length_le (Nat.le_of_eq df),List.take_of_length_le (Nat.le_of_eq n6)]at *;(repeat' ((first|(apply AG<;>intro hc<;>try (exfalso;omega))|apply AE)<;>conv=>whnf))
   refine PI (λ_=>rfl) rfl df.symm ?_;(conv=>whnf)
   refine C3 (enc:=eQ) (λ_=>rfl) rfl (fu 0).symm ?_;(conv=>whnf)
   refine C3 (enc:=eQ) (λ_=>rfl) rfl n6.symm ?_;(conv=>whnf)
   exact AW rfl v5
 ·rw[show B.length-1=n by omega]at nf jl
  refine Ev.x N.J4 rfl rfl ?_;(repeat' ((first|(apply AG<;>intro hc<;>try (exfalso;omega))|apply AE|refine AD (hV) ?_|refine AD (nf) ?_|refine AD (ng) ?_|refine AD (ov) ?_)<;>conv=>whnf))
  refine Q2 (enc:=eQ) n hZ (by simp) ?_;(conv=>whnf)
  by_cases nx:n=0
  ·skip
   subst nx;(repeat' ((first|(apply AG<;>intro hc<;>try (exfalso;omega))|fail)<;>conv=>whnf))
   refine FB ?_;(repeat' ((first|(apply AG<;>intro hc<;>try (exfalso;omega))|(refine C3 (λ_=>rfl) rfl ?_ ?_;(first|rfl|simp))|apply AE)<;>conv=>whnf))
   rw[List.eq_nil_of_length_eq_zero df,List.eq_nil_of_length_eq_zero n6]at *;exact AW rfl v5
  ·(repeat' ((first|(apply AG<;>intro hc<;>try (exfalso;omega))|(apply A3;omega)|refine AD (hO) ?_)<;>conv=>whnf))
   refine GC (enc:=eQ) 0 1 rfl rfl (λ_=>rfl) (by simp;omega) ?_;(conv=>whnf)
   rw[show (List.replicate n (0:Rat)).set 0 1=D4 n 0 from UA n 0];skip
   refine FB ?_;(repeat' ((first|(apply AG<;>intro hc<;>try (exfalso;omega))|apply AE)<;>conv=>whnf))
   refine Q2 (enc:=eQ) n hZ (by simp) ?_;(conv=>whnf)
   (repeat' ((first|(apply AG<;>intro hc<;>try (exfalso;omega))|fail)<;>conv=>whnf))
   refine CK (λ j=>n-j) (λ(j:Nat)=>j<=n) (λ j=>[(50,.int .i64 j)]) (λ j=>[(41,41,.rw 3 ((cz r0 n j).map eQ))]) [] [] 0 (by first|exact (by (conv=>whnf);exact ⟨rfl,rfl,rfl⟩)|(rw[lE];exact (by (conv=>whnf);exact ⟨rfl,rfl,rfl⟩))) (by omega) ?_;intro j p1 ih;have pf:=lC (row:=r0) p1;by_cases hj:j<n
   ·have j9:=lD (lq j hj) hj
    obtain ⟨f1,f2,f3,f4,f5⟩:=zh j;(repeat' ((first|(apply AG<;>intro hc<;>try (exfalso;omega))|(apply A3;omega)|(apply AR;omega)|apply AE|refine AD (f2) ?_|refine AD (f5) ?_)<;>conv=>whnf))
    refine JA (enc:=eQ) (-(A.getD (j+1) 0)) rfl (λ_=>rfl) (by omega) ?_;(conv=>whnf)
    (repeat' ((first|(apply AR;omega)|fail)<;>conv=>whnf))
    rw[j9];exact BO [] (ih (j+1) (by omega) (by omega))
   obtain rfl:j=n:=by omega
   clear ih;rw[kZ Ck];obtain ⟨f1,f2,f3,f4,f5⟩:=zh 0;(repeat' ((first|(apply AG<;>intro hc<;>try (exfalso;omega))|apply AE)<;>conv=>whnf))
   refine A3 ⟨by rw[List.length_map];omega,by omega⟩ ?_;(conv=>whnf)
   (repeat' ((first|(apply AR;omega)|apply EF|refine AD (ov) ?_|refine AD (f1) ?_|refine AD (f2) ?_|refine AD (f3) ?_|refine AD (f4) ?_)<;>conv=>whnf))
   refine SU (enc:=eQ) (B.getD (0+1) 0-b0*A.getD (0+1) 0) rfl rfl (by omega) ?_;(conv=>whnf)
   (repeat' ((first|(apply AR;omega)|fail)<;>conv=>whnf))
   refine CK (λ i=>j-i) (λ(i:Nat)=>1<=i/\i<=j) (λ i=>[(37,.int .i64 i)]) (λ i=>[(5,5,.bx ([.row 67 0 1 0 i,.row 28 0 3 0 j,.row 88 0 3 0 i]++eQ b0)),(67,67,.mx (ET 3 eQ (a.take i))),(88,88,.rw 3 ((c.take i).map eQ))]) [] [] 1 (by first|exact (by (conv=>whnf);exact ⟨rfl,rfl,rfl⟩)|(rw[Dy (by omega),ta (by omega)];exact (by (conv=>whnf);exact ⟨rfl,rfl,rfl⟩))) (by omega) ?_;intro i ⟨g1,g2⟩ ih;have wy:(a.take i).length=i:=by rw[List.length_take];omega
   have xd:(c.take i).length=i:=by rw[List.length_take];omega
   by_cases hi:i<j
   ·obtain ⟨f1,f2,f3,f4,f5⟩:=zh i
    have Ij:=IB (Kq i g1 hi);have Ik:=IB (Bh i hi);have wz:(a.take (i+1)).length=i+1:=by rw[List.length_take];omega
    have xe:(c.take (i+1)).length=i+1:=by rw[List.length_take];omega
    have Iv:=fu ((i-1:Nat):Int);(repeat' ((first|(apply AG<;>intro hc<;>try (exfalso;omega))|apply AE)<;>conv=>whnf))
    refine Q2 (enc:=eQ) j hZ (by simp) ?_;(conv=>whnf)
    (repeat' ((first|(apply AG<;>intro hc<;>try (exfalso;omega))|(apply A3;omega)|(apply BM;omega)|refine AD (hO) ?_)<;>conv=>whnf))
    refine GC (enc:=eQ) (i-1) 1 (by omega) rfl (λ_=>rfl) (by simp;omega) ?_;(conv=>whnf)
    rw[UA];skip
    refine A3 (by rw[List.length_map];omega) ?_;refine iG (r:=D4 j ((i-1:Nat):Int)) (en:=eQ) wy.symm (by omega) (by omega) ?_;rw[<-Ij,wz];(conv=>whnf)
    (repeat' ((first|(apply AR;omega)|apply EF|refine AD (ov) ?_|refine AD (f1) ?_|refine AD (f2) ?_|refine AD (f3) ?_|refine AD (f4) ?_)<;>conv=>whnf))
    refine FV (enc:=eQ) (B.getD (i+1) 0-b0*A.getD (i+1) 0) rfl xd.symm rfl (by omega) (by omega) ?_;rw[<-Ik,xe];(conv=>whnf)
    (repeat' ((first|(apply AR;omega)|fail)<;>conv=>whnf))
    exact BO [(67,1000067),(88,1000088)] (ih (i+1) (by omega) (by omega))
   obtain rfl:i=j:=by omega
   clear ih;rw[List.take_of_length_le (Nat.le_of_eq df),List.take_of_length_le (Nat.le_of_eq n6)]at *;(repeat' ((first|(apply AG<;>intro hc<;>try (exfalso;omega))|apply AE)<;>conv=>whnf))
   refine PI (λ_=>rfl) rfl df.symm ?_;(conv=>whnf)
   refine C3 (enc:=eQ) (λ_=>rfl) rfl (fu 0).symm ?_;(conv=>whnf)
   refine C3 (enc:=eQ) (λ_=>rfl) rfl n6.symm ?_;(conv=>whnf)
   exact AW rfl v5
theorem ZW {R:List (Option (Nat × List (List AV)))} {e:Nat} {r:Option (Nat × List (List AV))} {K:Option (Nat × List (List AV))->Prop} (h:R[e]? = some r) (hk:K r):B1 R e K:=by
 unfold B1;exact ⟨r,h,hk⟩
end Go.b7


namespace Go.b7
open F
attribute [local irreducible] AA AF AM AC BT AQ A5 AZ BG A9 BS CN BH AU BI BR AB A1 AJ pw B1 BQ B9 CM CH BF BV BB B5
variable {L:Lib}
set_option maxHeartbeats 4000000
end Go.b7



namespace Go.b7
open F
attribute [local irreducible] AA AF AM AC BT AQ A5 AZ BG A9 BS CN BH AU BI BR AB A1 AJ pw B1 BQ B9 CM CH BF BV BB B5
variable {L:Lib}
set_option maxHeartbeats 8000000
end Go.b7



namespace Go.b7
open F
attribute [local irreducible] AA AF AM AC BT AQ A5 AZ BG A9 BS CN BH AU BI BR AB A1 AJ pw B1 BQ B9 CM CH BF BV BB B5
variable {L:Lib}
set_option maxHeartbeats 8000000
set_option maxRecDepth 8000
end Go.b7

namespace Go.b7
set_option maxHeartbeats 4000000
theorem eF (x:Rat):x.num<0↔x<0:=by rw[<-Int.not_le,Rat.num_nonneg,Rat.not_le]
theorem UP (x:Rat):CJ x=if x<0 then -x else x:=by
 unfold CJ;by_cases h:x<0
 ·rw[if_pos h,if_pos ((eF x).2 h)]
 ·rw[if_neg h,if_neg (λ e=>h ((eF x).1 e))]
theorem aA (x:Rat):0<=CJ x:=by
 rw[UP];split
 ·grind
 ·grind
theorem Z9 (x y:Rat):CJ (x*y)=CJ x*CJ y:=by
 have pp : ∀ a b:Rat,0<=a->0<=b->0<=a*b:=λ a b=>Rat.mul_nonneg
 rw[UP,UP,UP];by_cases hx:x<0
 ·by_cases hy:y<0
  ·have h:=pp (-x) (-y) (by grind) (by grind)
   rw[if_pos hx,if_pos hy,if_neg (by rw[Rat.not_lt];grind)];grind
  ·have h:=pp (-x) y (by grind) (by grind)
   rw[if_pos hx,if_neg hy];by_cases h0:x*y<0
   ·rw[if_pos h0];grind
   ·rw[if_neg h0];grind
 ·by_cases hy:y<0
  ·have h:=pp x (-y) (by grind) (by grind)
   rw[if_neg hx,if_pos hy];by_cases h0:x*y<0
   ·rw[if_pos h0];grind
   ·rw[if_neg h0];grind
  ·have h:=pp x y (by grind) (by grind)
   rw[if_neg hx,if_neg hy,if_neg (by grind)]
theorem aB {x:Rat} (h:0<=x):CJ x=x:=by
 rw[UP,if_neg (by grind)]
def B0:List Rat->Rat
 | []=>0
 | x::l=>CJ x+B0 l
theorem sX (x:Rat) : ∀ l,B0 (l++[x])=B0 l+CJ x
 | []=>by simp only[List.nil_append,B0];grind
 | y::l=>by
  simp only[List.cons_append,B0,sX x l];grind
theorem sW : ∀ l,0<=B0 l
 | []=>by simp [B0]
 | x::l=>by
  have h1:=aA x;have h2:=sW l;simp only[B0];grind
theorem Y5 {c:Rat} (hc:0<=c) : ∀ l,B0 (l.map (· * c))=B0 l*c
 | []=>by simp only[List.map_nil,B0];grind
 | x::l=>by
  simp only[List.map_cons,B0,Y5 hc l,Z9,aB hc];grind
def HP (m x:Rat):Rat:=if m<CJ x then CJ x else m
def C8 (l:List Rat):Rat:=l.foldl HP 0
theorem Wo (l:List Rat) (x:Rat):C8 (l++[x])=HP (C8 l) x:=by rw[C8,List.foldl_append];rfl
theorem Wk (m x:Rat):m<=HP m x/\CJ x<=HP m x:=by
 unfold HP;split<;>exact ⟨by grind,by grind⟩
theorem Wl {c:Rat} (hc:0<c) (m x:Rat):HP (m*c) (x*c)=HP m x*c:=by
 unfold HP;rw[Z9,aB (show 0<=c by grind)];by_cases h:m<CJ x
 ·rw[if_pos h,if_pos ((Rat.mul_lt_mul_right hc).2 h)]
 ·rw[if_neg h,if_neg (λ h1=>h ((Rat.mul_lt_mul_right hc).1 h1))]
theorem oO {c:Rat} (hc:0<c) : ∀ (l:List Rat) (m:Rat),(l.map (· * c)).foldl HP (m*c)=l.foldl HP m*c
 | [],_=>rfl
 | x::l,m=>by rw[List.map_cons,List.foldl_cons,List.foldl_cons,Wl hc,oO hc l]
theorem Wn {c:Rat} (hc:0<c) (l:List Rat):C8 (l.map (· * c))=C8 l*c:=by
 have:=oO hc l 0
 rwa [Rat.zero_mul]at this
theorem oN : ∀ (l:List Rat) (m:Rat),m<=l.foldl HP m /\ ∀ x∈l,CJ x<=l.foldl HP m
 | [],m=>⟨Rat.le_refl,λ x h=>by cases h⟩
 | y::l,m=>by
  obtain ⟨h1,h2⟩:=oN l (HP m y);obtain ⟨h3,h4⟩:=Wk m y;refine ⟨Rat.le_trans h3 h1,λ x hx => ?_⟩;rcases List.mem_cons.1 hx with rfl|hx
  ·exact Rat.le_trans h4 h1
  ·exact h2 x hx
theorem Wm (l:List Rat):0<=C8 l:=(oN l 0).1
def GD (a:List (List Rat)):Bool:=a.all λ r=>decide (B0 r<=1/2)
def DF (n:Nat) (a:List (List Rat)):Nat->List (List Rat)
 | 0=>a
 | k+1=>JH (DF n a k) (DF n a k) n
theorem gL {n:Nat} {a:List (List Rat)} (h:Sq n a) : ∀ k,Sq n (DF n a k)
 | 0=>h
 | k+1=>Sq.mul (gL h k).l _
def B6 (c:Rat) (a:List (List Rat)):List (List Rat):=a.map λ r=>r.map (· * c)
theorem sZ (c:Rat) (a:List (List Rat)):(B6 c a).length=a.length:=by simp [B6]
theorem Y6 {n:Nat} (c:Rat) {a:List (List Rat)} (h : ∀ r∈a,r.length=n) : ∀ r∈B6 c a,r.length=n:=λ r hr=>by
 obtain ⟨s,hs,rfl⟩:=List.mem_map.1 hr;rw[List.length_map];exact h s hs
theorem gC {n:Nat} (c:Rat) {a:List (List Rat)} (h:Sq n a):Sq n (B6 c a):=⟨by rw[sZ,h.l],Y6 c h.r⟩
theorem AfS {c:Rat} {a:List (List Rat)} {i:Nat} {r:List Rat} (h:a[i]? = some r):(B6 c a)[i]? = some (r.map (· * c)):=by rw[B6,List.getElem?_map,h];rfl
theorem Wj (r:List Rat) (c:Rat) (j:Nat):(r.map (· * c)).getD j 0=r.getD j 0*c:=by
 rw[List.getD_eq_getElem?_getD,List.getD_eq_getElem?_getD,List.getElem?_map];cases r[j]? with
 | none=>simp [Rat.zero_mul]
 | some x=>rfl
theorem Pn (c:Rat) (a:List (List Rat)) (j:Nat):ER (B6 c a) j=(ER a j).map (· * c):=by
 rw[ER,ER,B6,List.map_map,List.map_map];exact List.map_congr_left λ r _=>Wj r c j
theorem bQ (c d:Rat) (u v:List Rat):CE (u.map (· * c)) (v.map (· * d))=CE u v*(c*d):=by
 rw[bP,bN,bP,bN];grind
theorem Xx (c d:Rat) (a b:List (List Rat)) (n:Nat):JH (B6 c a) (B6 d b) n=B6 (c*d) (JH a b n):=by
 show (a.map λ r=>r.map (· * c)).map (λ r=>HS r (B6 d b) n)=(a.map λ r=>HS r b n).map (λ r=>r.map (· * (c*d)));rw[List.map_map,List.map_map];refine List.map_congr_left λ r _ => ?_
 show HS (r.map (· * c)) (B6 d b) n=(HS r b n).map (· * (c*d));rw[HS,HS,List.map_map];refine List.map_congr_left λ j _ => ?_
 show CE (r.map (· * c)) (ER (B6 d b) j)=CE r (ER b j)*(c*d);rw[Pn,bQ]
theorem Ya (c d:Rat) (a:List (List Rat)) (v:List Rat):GY (B6 c a) (v.map (· * d))=(GY a v).map (· * (c*d)):=by
 show (a.map λ r=>r.map (· * c)).map (λ r=>CE r (v.map (· * d)))=(a.map λ r=>CE r v).map (· * (c*d));rw[List.map_map,List.map_map];exact List.map_congr_left λ r _=>bQ c d r v
def DU (D:Rat):Nat->Rat
 | 0=>D
 | i+1=>DU D i*DU D i
theorem bL {D:Rat} (h:0<D) : ∀ i,0<DU D i
 | 0=>h
 | i+1=>Rat.mul_pos (bL h i) (bL h i)
theorem tS (n:Nat) (a:List (List Rat)) (D:Rat) (i:Nat):JH (B6 (DU D i) (DF n a i)) (B6 (DU D i) (DF n a i)) n=B6 (DU D (i+1)) (DF n a (i+1)):=Xx _ _ _ _ _
theorem oW {s D:Rat} (hD:0<D):s*D+s*D<=D↔s<=1/2:=by
 have e:s*D+s*D=(s+s)*D:=by grind
 have h1:(s+s)*D<=1*D↔s+s<=1:=⟨λ h=>Rat.le_of_mul_le_mul_right h hD,λ h=>Rat.mul_le_mul_of_nonneg_right h (by grind)⟩;rw[Rat.one_mul]at h1;rw[e,h1];constructor<;>intro h<;>grind
theorem vB {k:Nat} {x:Rat} (hx:Bt k x) {S:Nat} {z:Int} (hz:x*(S:Rat)=(z:Rat)) {M:Nat} (hS:S<=2^M):Wh (k+M) (x*(S:Rat)):=by
 refine ⟨z,hz,?_⟩;have h1:=R3 x;have h2:((z*(x.den:Int):Int):Rat)=((x.num*(S:Int):Int):Rat):=by
  rw[Rat.intCast_mul,Rat.intCast_mul,<-h1,<-hz,Rat.intCast_natCast,Rat.intCast_natCast];grind
 have h3:=congrArg Int.natAbs (Rat.intCast_inj.1 h2);rw[Int.natAbs_mul,Int.natAbs_mul,Int.natAbs_natCast,Int.natAbs_natCast]at h3;have h4:z.natAbs<=z.natAbs*x.den:=Nat.le_mul_of_pos_right _ x.den_pos;rw[Nat.pow_add];exact Nat.le_trans h4 (by rw[h3];exact Nat.mul_le_mul hx.1 hS)
theorem AfH (S:Nat) (x:Rat):((S:Rat)*x).den ∣ x.den:=by
 refine bC (z:=S*x.num) ?_;have h:=R3 x;rw[Rat.intCast_mul,<-h,Rat.intCast_natCast];grind
theorem sR {k:Nat} : ∀ (l:List Rat) (S:Nat),0<S->Bs k l -> ∃ S':Nat,l.foldl V9 (S:Rat)=(S':Rat)/\0<S'/\S'<=S*2^(l.length*k)/\S ∣ S' /\ ∀ x∈l,∃ z:Int,x*(S':Rat)=(z:Rat)
 | [],S,h,_=>⟨S,rfl,h,by simp,Nat.dvd_refl S,λ x hx=>by cases hx⟩
 | x::l,S,h,hb=>by
  have h1:=AfH S x;have hx:=hb x List.mem_cons_self;have h2:((S:Rat)*x)*((((S:Rat)*x).den:Nat):Rat)=(((S:Rat)*x).num:Rat):=R3 _;have h3:=Nat.le_of_dvd x.den_pos h1;have h4:=((S:Rat)*x).den_pos;generalize ((S:Rat)*x).num=u at h2;obtain ⟨S',e,p1,p2,p3,p4⟩:=sR l (S*((S:Rat)*x).den) (Nat.mul_pos h h4) λ y hy=>hb y (List.mem_cons_of_mem _ hy)
  refine ⟨S',by rw[List.foldl_cons,<-e,V9,Rat.natCast_mul],p1,?_,Nat.dvd_trans (Nat.dvd_mul_right _ _) p3,λ y hy => ?_⟩
  ·have h5:S*((S:Rat)*x).den<=S*2^k:=Nat.mul_le_mul_left S (Nat.le_trans h3 hx.2)
   have h6:=Nat.mul_le_mul_right (2^(l.length*k)) h5;rw[List.length_cons,Nat.succ_mul,Nat.pow_add,Nat.mul_comm (2^(l.length*k)),<-Nat.mul_assoc];exact Nat.le_trans p2 h6
  ·rcases List.mem_cons.1 hy with rfl|hy
   ·obtain ⟨t,rfl⟩:=p3
    refine ⟨u*(t:Int),?_⟩;rw[Rat.natCast_mul,Rat.natCast_mul,Rat.intCast_mul,<-h2,Rat.intCast_natCast];grind
   ·exact p4 y hy
theorem fX {k:Nat} {l:List Rat} (hb:Bs k l) : ∃ S:Nat,F7 l=(S:Rat)/\0<S/\S<=2^(l.length*k) /\ ∀ x∈l,∃ z:Int,x*(S:Rat)=(z:Rat):=by
 obtain ⟨S,e,h1,h2,_,h3⟩:=sR l 1 (by omega) hb;exact ⟨S,e,h1,by rwa [Nat.one_mul]at h2,h3⟩
theorem Oj (S:Nat) (x:Rat):((S:Rat)/(x.den:Rat)).den=((S:Rat)*x).den:=by
 have tc:(x.den:Rat)≠0:=λ e=>by
  have:((x.den:Nat):Rat)=((0:Nat):Rat):=e
  have:=Rat.natCast_inj.1 this
  have:=x.den_pos
  omega
 have hx:=R3 x;refine Nat.dvd_antisymm ?_ ?_
 ·-- e=(S x).den: e S num/d whole,so d ∣ e S
  have h1:=R3 ((S:Rat)*x);generalize hE:((S:Rat)*x).den=E at *;generalize ((S:Rat)*x).num=u at h1;have h2:(((E*S:Nat):Int)*x.num:Int)=u*(x.den:Int):=by
   refine Rat.intCast_inj.1 ?_;rw[Rat.intCast_mul,Rat.intCast_mul,<-hx,<-h1,Rat.intCast_natCast,Rat.intCast_natCast,Rat.natCast_mul];grind
  have h3:x.den ∣ E*S*x.num.natAbs:=by
   have h4:(x.den:Int) ∣ ((E*S:Nat):Int)*x.num:=⟨u,by rw[h2,Int.mul_comm]⟩;have:=Int.natAbs_dvd_natAbs.2 h4
   rw[Int.natAbs_mul,Int.natAbs_natCast,Int.natAbs_natCast]at this;exact this
  obtain ⟨t,ht⟩:=Nat.Coprime.dvd_of_dvd_mul_right (Nat.Coprime.symm x.reduced) h3;refine bC (z:=t) ?_;have h5:((E*S:Nat):Rat)=((x.den*t:Nat):Rat):=congrArg _ ht;rw[Rat.natCast_mul,Rat.natCast_mul]at h5;rw[Rat.div_def,<-Rat.mul_assoc,h5,Rat.intCast_natCast];have:=Rat.mul_inv_cancel _ tc
  grind
 ·have h1:=R3 ((S:Rat)/(x.den:Rat))
  generalize ((S:Rat)/(x.den:Rat)).num=u at h1;generalize ((S:Rat)/(x.den:Rat)).den=E at *;refine bC (z:=u*x.num) ?_;rw[Rat.intCast_mul,<-h1,<-hx,Rat.div_def];have:=Rat.mul_inv_cancel _ tc
  grind
def SM (a:List (List Rat)) (b:List Rat):Nat->List Rat
 | 0=>b
 | k+1=>GY a (SM a b k)
theorem iC {a:List (List Rat)} {b:List Rat} {n:Nat} (ha:a.length=n) (hb:b.length=n) : ∀ k,(SM a b k).length=n
 | 0=>hb
 | k+1=>by rw[SM,qX,ha]
theorem Px {a:List (List Rat)}:GD a=true ↔ ∀ r∈a,B0 r<=1/2:=by
 rw[GD,List.all_eq_true];exact ⟨λ h r hr=>by simpa using h r hr,λ h r hr=>by simpa using h r hr⟩
theorem gU {f:Nat->Rat} (h : ∀ j,0<=f j) : ∀ n,0<=IA f n
 | 0=>Rat.le_refl
 | n+1=>by
  have h1:=gU h n;have h2:=h n;simp only[IA];grind
def QQ (a:List (List Rat)) (b:List Rat) (k:Nat):Rat:=C8 (SM a b k)
def QN (a:List (List Rat)) (b c:List Rat) (k:Nat):Rat:=CJ (CE c (SM a b k))
def KQ (S:IH) (p:Nat):Rat:=CJ S.d+(IA (QN S.a S.b S.c) (p+p)+B0 S.c*IA (λ j=>QQ S.a S.b (p+j)) p)
theorem vA {k l n:Nat} {a:List (List Rat)} {v:List Rat} (ha : ∀ r∈a,∀ x∈r,Wh k x) (hl : ∀ r∈a,r.length=n) (hv : ∀ x∈v,Wh l x) : ∀ x∈GY a v,Wh (k+l+n) x:=λ x hx=>by
 obtain ⟨r,hr,rfl⟩:=List.mem_map.1 hx;have:=Wh.dot (ha r hr) hv
 rwa [hl r hr]at this
theorem gE {n k:Nat} {a:List (List Rat)} (hs:Sq n a) (hb:Ms k a) : ∃ S:Nat,F7 a.flatten=(S:Rat)/\0<S/\S<=2^(n*n*k) /\ ∀ r∈B6 (S:Rat) a,∀ x∈r,Wh (k+n*n*k) x:=by
 have hl:a.flatten.length=n*n:=by
  have : ∀ (a:List (List Rat)),(∀ r∈a,r.length=n)->a.flatten.length=a.length*n:=by
   intro a;induction a with
   | nil=>intro _;simp
   | cons r a ih =>
    intro h;rw[List.flatten_cons,List.length_append,ih λ x hx=>h x (List.mem_cons_of_mem _ hx),h r List.mem_cons_self,List.length_cons,Nat.succ_mul,Nat.add_comm]
  rw[this a hs.r,hs.l]
 have oz:Bs k a.flatten:=λ x hx=>by
  obtain ⟨r,hr,hx⟩:=List.mem_flatten.1 hx;exact hb r hr x hx
 obtain ⟨S,e,h1,h2,h3⟩:=fX oz;rw[hl]at h2;refine ⟨S,e,h1,h2,λ r hr x hx => ?_⟩;obtain ⟨s,hs,rfl⟩:=List.mem_map.1 hr;obtain ⟨y,hy,rfl⟩:=List.mem_map.1 hx;obtain ⟨z,hz⟩:=h3 y (List.mem_flatten.2 ⟨s,hs,hy⟩);exact vB (hb s hs y hy) hz h2
theorem X9 {n k:Nat} {b:List Rat} (hl:b.length=n) (hb:Bs k b) : ∃ S:Nat,F7 b=(S:Rat)/\0<S/\S<=2^(n*k) /\ ∀ x∈b.map (· * (S:Rat)),Wh (k+n*k) x:=by
 obtain ⟨S,e,h1,h2,h3⟩:=fX hb;rw[hl]at h2;refine ⟨S,e,h1,h2,λ x hx => ?_⟩;obtain ⟨y,hy,rfl⟩:=List.mem_map.1 hx;obtain ⟨z,hz⟩:=h3 y hy;exact vB (hb y hy) hz h2
def C2 (a:List (List Rat)) (b:List Rat) (D E:Rat) (j:Nat):List Rat:=(SM a b j).map (· * (E*D^j))
theorem ZN (a:List (List Rat)) (b:List Rat) (D E:Rat):C2 a b D E 0=b.map (· * E):=by
 rw[C2,Rat.pow_zero,Rat.mul_one];rfl
theorem ZM (a:List (List Rat)) (b:List Rat) (D E:Rat) (j:Nat):C2 a b D E (j+1)=GY (B6 D a) (C2 a b D E j):=by
 rw[C2,C2,Ya,SM];refine List.map_congr_left λ x _ => ?_
 rw[Rat.pow_succ];grind
def WO (n k j:Nat):Nat:=(k+n*k)+j*((k+n*n*k)+n)
theorem vG {n k:Nat} {a:List (List Rat)} {b:List Rat} {D E:Nat} (hs:Sq n a) (hA : ∀ r∈B6 (D:Rat) a,∀ x∈r,Wh (k+n*n*k) x) (hB : ∀ x∈b.map (· * (E:Rat)),Wh (k+n*k) x) : ∀ j,∀ x∈C2 a b D E j,Wh (WO n k j) x
 | 0=>by
  rw[ZN];intro x hx;exact (hB x hx).le (by rw[WO];omega)
 | j+1=>by
  rw[ZM];intro x hx;refine (vA hA (Y6 _ hs.r) (vG hs hA hB j) x hx).le ?_;simp only[WO,Nat.succ_mul];omega
def KS (n:Nat) (a:List (List Rat)) (i:Nat):Prop:=GD (DF n a i)=true /\ ∀ j,j<i->GD (DF n a j)=false
theorem KS.uniq {n i j:Nat} {a:List (List Rat)} (hi:KS n a i) (hj:KS n a j):i=j:=by
 rcases Nat.lt_trichotomy i j with h|h|h
 ·have:=hj.2 i h
  rw[hi.1]at this;cases this
 ·exact h
 ·have:=hi.2 j h
  rw[hj.1]at this;cases this
def E1 (k:Nat):Nat->Nat
 | 0=>17*k
 | i+1=>E1 k i+E1 k i+4
theorem AgE {k:Nat} : ∀ i,i<=7->E1 k i<=2176*k+508:=by
 intro i hi;have h1:E1 k 0=17*k:=rfl;have e1:E1 k 1=E1 k 0+E1 k 0+4:=rfl;have e2:E1 k 2=E1 k 1+E1 k 1+4:=rfl;have e3:E1 k 3=E1 k 2+E1 k 2+4:=rfl;have e4:E1 k 4=E1 k 3+E1 k 3+4:=rfl;have e5:E1 k 5=E1 k 4+E1 k 4+4:=rfl;have e6:E1 k 6=E1 k 5+E1 k 5+4:=rfl;have e7:E1 k 7=E1 k 6+E1 k 6+4:=rfl;obtain rfl|rfl|rfl|rfl|rfl|rfl|rfl|rfl:i=0\/i=1\/i=2\/i=3\/i=4\/i=5\/i=6\/i=7:=by omega
 all_goals omega
theorem Agy {k l n:Nat} {a b:List (List Rat)} (ha : ∀ r∈a,∀ x∈r,Wh k x) (hl : ∀ r∈a,r.length=n) (hb : ∀ r∈b,∀ x∈r,Wh l x) : ∀ r∈JH a b n,∀ x∈r,Wh (k+l+n) x:=λ r hr x hx=>by
 obtain ⟨s,hs,rfl⟩:=List.mem_map.1 hr;obtain ⟨j,_,rfl⟩:=List.mem_map.1 hx;have hc : ∀ x∈ER b j,Wh l x:=λ x hx=>by
  obtain ⟨t,ht,rfl⟩:=List.mem_map.1 hx;rw[List.getD_eq_getElem?_getD];cases e:t[j]? with
  | none=>exact Wh.zero l
  | some y=>exact hb t ht y (zM e)
 have:=Wh.dot (ha s hs) hc
 rwa [hl s hs]at this
theorem gM {n k:Nat} {a:List (List Rat)} {D:Nat} (hs:Sq n a) (hn:n<=4) (hA : ∀ r∈B6 (D:Rat) a,∀ x∈r,Wh (k+n*n*k) x) : ∀ i,∀ r∈B6 (DU (D:Rat) i) (DF n a i),∀ x∈r,Wh (E1 k i) x
 | 0=>λ r hr x hx=>(hA r hr x hx).le (by
   show k+n*n*k<=17*k;have:n*n<=4*4:=Nat.mul_le_mul hn hn
   have:=Nat.mul_le_mul_right k this
   omega)
 | i+1=>λ r hr x hx=>by
  rw[<-tS]at hr;exact (Agy (gM hs hn hA i) (Y6 _ (gL hs i).r) (gM hs hn hA i) r hr x hx).le (by simp only[E1];omega)
theorem bM {D M:Nat} (hD:D<=2^M) : ∀ i,Wh (2^i*M) (DU (D:Rat) i)
 | 0=>⟨(D:Int),by rw[DU,Rat.intCast_natCast],by rw[Nat.pow_zero,Nat.one_mul];simpa using hD⟩
 | i+1=>((bM hD i).mul (bM hD i)).le (by rw[Nat.pow_succ,Nat.mul_two,Nat.add_mul];exact Nat.le_refl _)
theorem Nn {n i:Nat} {a:List (List Rat)} {D:Rat} (hD:0<D):(∀ r∈B6 (DU D i) (DF n a i),B0 r+B0 r<=DU D i)↔GD (DF n a i)=true:=by
 have hp:=bL hD i;rw[Px];constructor
 ·intro h r hr
  have:=h _ (List.mem_map.2 ⟨r,hr,rfl⟩)
  rw[Y5 (by grind)]at this;exact (oW hp).1 this
 ·intro h r hr
  obtain ⟨s,hs,rfl⟩:=List.mem_map.1 hr;rw[Y5 (by grind)];exact (oW hp).2 (h s hs)
theorem T4 {k:Nat} : ∀ {l:List Rat},Bs k l->Bt (l.length*(k+1)) (B0 l)
 | [],_=>Bt.zero _
 | x::l,h=>by
  have h1:=T4 (l:=l) λ y hy=>h y (List.mem_cons_of_mem _ hy)
  have h2:Bt k (CJ x):=by
   unfold CJ;split
   ·exact (h x List.mem_cons_self).Df
   ·exact h x List.mem_cons_self
  refine (h2.add h1).le ?_;rw[List.length_cons,Nat.succ_mul];omega
theorem OM {k:Nat} {x:Rat} (h:Bt k x):Bt k (CJ x):=by
 unfold CJ;split
 ·exact h.Df
 ·exact h
theorem Add {k:Nat} {m x:Rat} (hm:Bt k m) (hx:Bt k x):Bt k (HP m x):=by
 unfold HP;split
 ·exact OM hx
 ·exact hm
theorem VM {k:Nat} {l:List Rat} (h:Bs k l):Bt k (C8 l):=by
 have : ∀ (l:List Rat) (m:Rat),Bt k m->Bs k l->Bt k (l.foldl HP m):=by
  intro l;induction l with
  | nil=>intro m hm _;exact hm
  | cons x l ih =>
   intro m hm h;exact ih _ (Add hm (h x List.mem_cons_self)) λ y hy=>h y (List.mem_cons_of_mem _ hy)
 exact this l 0 (Bt.zero k) h
theorem eV (D:Rat) (a:Nat) : ∀ b:Nat,D^(a+b)=D^a*D^b
 | 0=>by rw[Nat.add_zero,Rat.pow_zero,Rat.mul_one]
 | b+1=>by rw[<-Nat.add_assoc,Rat.pow_succ,eV D a b,Rat.pow_succ,Rat.mul_assoc]
def DZ (D:Rat) (f:Nat->Rat):Nat->Rat
 | 0=>0
 | m+1=>DZ D f m*D+f m
theorem dE {D c:Rat} {f F:Nat->Rat} (h : ∀ j,f j=F j*(c*D^j)) : ∀ m,DZ D f m*D=c*D^m*IA F m
 | 0=>by simp only[DZ,IA];grind
 | m+1=>by
  have:=dE h m
  rw[DZ,Rat.add_mul,this,h m,Rat.pow_succ,IA];grind
theorem RW {D:Rat} {f:Nat->Rat} {d k:Nat} (hD:Bt d D) : ∀ m,(∀ j,j<m->Bt k (f j))->Bt (m*(d+k+1)) (DZ D f m)
 | 0,_=>Bt.zero _
 | m+1,h=>by
  have h1:=RW hD m λ j hj=>h j (by omega)
  refine ((h1.mul hD).add (h m (by omega))).le ?_;rw[Nat.succ_mul];omega
theorem AgK {a:List (List Rat)} {b:List Rat} {D E:Rat} (hD:0<D) (hE:0<E) (j:Nat):C8 (C2 a b D E j)=QQ a b j*(E*D^j):=Wn (Rat.mul_pos hE (by
 induction j with
 | zero=>rw[Rat.pow_zero];decide
 | succ j ih=>rw[Rat.pow_succ];exact Rat.mul_pos ih hD)) _
theorem uG {S:IH} {D E O:Rat} {p:Nat} (hp:1<=p) (hD:0<D) (hE:0<E) (hO:0<O) :
  (DZ D (λ j=>CJ (CE (S.c.map (· * O)) (C2 S.a S.b D E j))) (p+p)+B0 (S.c.map (· * O))*DZ D (λ j=>C8 (C2 S.a S.b D E (p+j))) p)/(D^(p+p-1)*(E*O))=IA (QN S.a S.b S.c) (p+p)+B0 S.c*IA (λ j=>QQ S.a S.b (p+j)) p:=by
 have yf : ∀ j:Nat,0<D^j:=λ j=>by
  induction j with
  | zero=>rw[Rat.pow_zero];decide
  | succ j ih=>rw[Rat.pow_succ];exact Rat.mul_pos ih hD
 have h1:=dE (D:=D) (c:=O*E) (f:=λ j=>CJ (CE (S.c.map (· * O)) (C2 S.a S.b D E j))) (F:=QN S.a S.b S.c) (λ j=>by
  show CJ (CE (S.c.map (· * O)) (C2 S.a S.b D E j))=_;rw[C2,bQ,Z9,QN,aB (show 0<=O*(E*D^j) from by have:=Rat.mul_pos hO (Rat.mul_pos hE (yf j));grind)];grind) (p+p)
 have h2:=dE (D:=D) (c:=E*D^p) (f:=λ j=>C8 (C2 S.a S.b D E (p+j))) (F:=λ j=>QQ S.a S.b (p+j)) (λ j=>by
  show C8 (C2 S.a S.b D E (p+j))=_;rw[AgK hD hE,eV];grind) p
 have h3:B0 (S.c.map (· * O))=B0 S.c*O:=Y5 (by grind) _;generalize DZ D (λ j=>CJ (CE (S.c.map (· * O)) (C2 S.a S.b D E j))) (p+p)=u at *;generalize DZ D (λ j=>C8 (C2 S.a S.b D E (p+j))) p=t at *;generalize IA (QN S.a S.b S.c) (p+p)=F at *;generalize IA (λ j=>QQ S.a S.b (p+j)) p=G at *;rw[h3];have h4:D^(p+p)=D^(p+p-1)*D:=by rw[<-Rat.pow_succ];congr 1;omega
 have h5:D^(p+p)=D^p*D^p:=eV _ _ _;have hq:=yf (p+p-1);have hz:=yf p;generalize D^(p+p-1)=L at *;generalize D^(p+p)=M at *;generalize D^p=P at *;have l9:L*(E*O)≠0:=by
  have:=Rat.mul_pos hq (Rat.mul_pos hE hO)
  grind
 have key:(u+B0 S.c*O*t)*D=(F+B0 S.c*G)*(L*(E*O))*D:=by
  have e1:u*D=O*E*(L*D)*F:=by rw[h1,h4]
  have e2:t*D=E*(L*D)*G:=by rw[h2,<-h4,h5];grind
  have:(u+B0 S.c*O*t)*D=u*D+B0 S.c*O*(t*D):=by grind
  rw[this,e1,e2];grind
 have Ap:D≠0:=by grind
 have:=Xz Ap key
 rw[this,Rat.div_def,Rat.mul_assoc,Rat.mul_inv_cancel _ l9,Rat.mul_one]
end Go.b7

namespace Go.b7
open F
attribute [local irreducible] AA AF AM AC BT AQ A5 AZ BG A9 BS CN BH AU BI BR AB A1 AJ pw B1 BQ B9 CM CH BF BV BB B5
variable {L:Lib}
set_option maxHeartbeats 16000000
set_option maxRecDepth 8000
theorem aZ {k:Nat} {x:Rat} (h:Bt k x):Bt k ((x.den:Nat):Rat):=by
 refine ⟨?_,?_⟩
 ·rw[Rat.num_natCast,Int.natAbs_natCast];exact h.2
 ·rw[Rat.den_natCast];exact Nat.one_le_two_pow
theorem Oi (x:Rat):((x.den:Nat):Rat)≠0:=λ e=>by
 have:((x.den:Nat):Rat)=((0:Nat):Rat):=e
 have:=Rat.natCast_inj.1 this
 have:=x.den_pos
 omega
theorem nE (N:l7 L) {x:Rat} {k:Nat} (hx:Bt k x) (hk:k<2199023255552):Ev L 294 [.agg (eQ x)] (.agg (eQ ((x.den:Nat):Rat))):=by
 have hT:=nY N.toa6 hx hk;have n6:=DH ((x.den:Nat):Rat);have e:eQ ((x.den:Nat):Rat)=[.bool false,.sl false ((dg x.den).map AL),.sl false [[.int .u32 1]]]:=by
  rw[<-Rat.intCast_natCast,Qu,Int.natAbs_natCast,show decide (((x.den:Nat):Int)<0)=false by simp]
 rw[e]at n6 ⊢;refine Ev.x N.MH rfl rfl ?_;(repeat' ((first|refine FF rfl ?_|apply AE|refine AD (hT) ?_)<;>conv=>whnf))
 exact AW rfl n6
theorem U7 (N:l7 L) (q q':Bool) (ls:List (List Rat)) (k:Nat) (hb:Ms k ls) (hl:ls.flatten.length<=64) (pz:ls.length<=1000) (hk:k<=1000000):Ev L 295 [.sl q (KF q' ls)] (.agg (eQ (F7 ls.flatten))):=by
 have hO:=E2 N.toa6 1 (by omega);rw[show ((1:Int):Rat)=1 from rfl]at hO;have key : ∀ (i j:Nat) (r:List Rat) (x:Rat),ls[i]? = some r->r[j]? = some x -> ∃ S:Nat,F7 ((ls.take i).flatten++r.take j)=(S:Rat)/\Bt (64*k) (S:Rat)/\F7 ((ls.take i).flatten++r.take (j+1))=(S:Rat)*(((S:Rat)/((x.den:Nat):Rat)).den:Nat):=by
  intro i j r x hr hx;have cg:=(zS hx).1;have hlen:((ls.take i).flatten++r.take j).length<=64:=by
   have e:ls.flatten=(ls.take i).flatten++(r++(ls.drop (i+1)).flatten):=by
    have h1:=(zS hr);obtain ⟨h1,h2⟩:=h1;conv=>lhs;rw[<-List.take_append_drop i ls,List.flatten_append,List.drop_eq_getElem_cons h1,h2,List.flatten_cons]
   rw[e,List.length_append,List.length_append]at hl;rw[List.length_append,List.length_take];omega
  have Kr:Bs k ((ls.take i).flatten++r.take j):=λ y hy=>by
   rcases List.mem_append.1 hy with hy|hy
   ·obtain ⟨s,hs,hy⟩:=List.mem_flatten.1 hy
    exact hb s (List.mem_of_mem_take hs) y hy
   ·exact hb r (zM hr) y (List.mem_of_mem_take hy)
  obtain ⟨S,e,h1,h2,_⟩:=fX Kr;refine ⟨S,e,⟨?_,?_⟩,?_⟩
  ·rw[Rat.num_natCast,Int.natAbs_natCast]
   exact Nat.le_trans h2 (Nat.pow_le_pow_right (by omega) (Nat.mul_le_mul_right k hlen))
  ·rw[Rat.den_natCast];exact Nat.one_le_two_pow
  ·rw[List.take_add_one,hx,Option.toList_some,<-List.append_assoc,AfI,e,V9,Oj]
 refine Ev.x N.MF rfl rfl ?_;(repeat' ((first|apply AY|apply AE|refine AD (hO) ?_)<;>conv=>whnf))
 refine CK (λ i=>ls.length-i) (λ(i:Nat)=>i<=ls.length) (λ i=>[(13,.int .i64 i)]) (λ i=>[(3,3,.bx (eQ (F7 (ls.take i).flatten)))]) [] [] 0 (by rw[show F7 (ls.take 0).flatten=1 from rfl];exact (by (conv=>whnf);exact ⟨rfl,rfl,rfl⟩)) (by omega) ?_;intro i p1 ih;by_cases hi:i<ls.length
 ·obtain ⟨r,hr⟩ : ∃ r,ls[i]? = some r:=⟨_,zE hi⟩
  have yh:ls[(i:Int).toNat]? = some r:=hr;have Cm:=hb r (zM hr);have gp:r.length<=64:=by
   have e:ls.flatten=(ls.take i).flatten++(r++(ls.drop (i+1)).flatten):=by
    obtain ⟨h1,h2⟩:=zS hr;conv=>lhs;rw[<-List.take_append_drop i ls,List.flatten_append,List.drop_eq_getElem_cons h1,h2,List.flatten_cons]
   rw[e,List.length_append,List.length_append]at hl;omega
  have du:(ls.take (i+1)).flatten=(ls.take i).flatten++r:=by
   rw[List.take_add_one,hr,List.flatten_append];simp
  (repeat' ((first|(apply AG<;>intro hc<;>try (exfalso;omega))|apply AY|(refine BC (by assumption) ?_ rfl ?_;omega)|apply AE)<;>conv=>whnf))
  refine CK (λ j=>r.length-j) (λ(j:Nat)=>j<=r.length) (λ j=>[(19,.int .i64 j)]) (λ j=>[(3,3,.bx (eQ (F7 ((ls.take i).flatten++r.take j))))]) [] [] 0 (by rw[List.take_zero,List.append_nil];exact (by (conv=>whnf);exact ⟨rfl,rfl,rfl⟩)) (by omega) ?_;intro j r1 jh;by_cases hj:j<r.length
  ·obtain ⟨x,hx⟩ : ∃ x,r[j]? = some x:=⟨_,zE hj⟩
   have rn:r[(j:Int).toNat]? = some x:=hx;obtain ⟨S,e,hS,e2⟩:=key i j r x hr hx;have Ew:=Cm.at hx;have nf:=nE N Ew (by omega);have hq:=hS.na (aZ Ew);have Fp:=XV N.toa6 hS (aZ Ew) (by omega) (by omega) (Oi x);have ng:=nE N hq (by omega);have hM:=F3 N.toa6 hS (aZ hq) (by omega) (by omega);rw[<-e2]at hM;rw[e];generalize (S:Rat)/((x.den:Nat):Rat)=y at *;generalize ((x.den:Nat):Rat)=d at *;generalize (S:Rat)=s at *;generalize ((y.den:Nat):Rat)=d2 at *;(repeat' ((first|(apply AG<;>intro hc<;>try (exfalso;omega))|(apply AR;omega)|(refine BC (by assumption) ?_ rfl ?_;omega)|apply AE|refine AD (nf) ?_|refine AD (Fp) ?_|refine AD (ng) ?_|refine AD (hM) ?_)<;>conv=>whnf))
   exact BO [] (jh (j+1) (by omega) (by omega))
  obtain rfl:j=r.length:=by omega
  clear jh;rw[List.take_of_length_le (Nat.le_refl _),<-du];(repeat' ((first|(apply AG<;>intro hc<;>try (exfalso;omega))|(apply AR;omega)|apply AE)<;>conv=>whnf))
  exact BO [] (ih (i+1) (by omega) (by omega))
 obtain rfl:i=ls.length:=by omega
 clear ih;rw[List.take_of_length_le (Nat.le_refl _)];(repeat' ((first|(apply AG<;>intro hc<;>try (exfalso;omega))|apply AE)<;>conv=>whnf))
 exact AW rfl (DH _)
theorem U8 (N:l7 L) (q:Bool) (v:List Rat) (c:Rat) (k l:Nat) (hv:Bs k v) (hc:Bt l c) (hk:k<1099511627776) (hl:l<1099511627776) (hn:v.length<=1000000):Ev L 296 [.sl q (v.map eQ),.agg (eQ c)] (.sl false ((v.map (· * c)).map eQ)):=by
 refine Ev.x N.MR rfl rfl ?_;(repeat' ((first|apply AY|apply AE)<;>conv=>whnf))
 refine DP (enc:=eO) none v.length rfl rfl (by omega) ?_;(conv=>whnf)
 (repeat' (apply AY<;>conv=>whnf))
 refine CK (λ i=>v.length-i) (λ(i:Nat)=>i<=v.length) (λ i=>[(12,.int .i64 i)]) (λ i=>[(9,9,.rw 3 ((BW ((v.map (· * c)).take i) v.length).map eO))]) [] [] 0 (by first|exact (by (conv=>whnf);exact ⟨rfl,rfl,rfl⟩)|(rw[List.take_zero,<-RS];exact (by (conv=>whnf);exact ⟨rfl,rfl,rfl⟩))) (by omega) ?_;intro i p1 ih;have ft:((v.map (· * c)).take i).length=i:=by rw[List.length_take,List.length_map];omega
 have zo:=HO (l:=(v.map (· * c)).take i) (m:=v.length) (by omega);by_cases hi:i<v.length
 ·obtain ⟨x,hx⟩ : ∃ x,v[i]? = some x:=⟨_,zE hi⟩
  have rn:v[(i:Int).toNat]? = some x:=hx;have hy:(v.map (· * c))[i]? = some (x*c):=by rw[List.getElem?_map,hx];rfl
  have hs:=K5 (l:=(v.map (· * c)).take i) (m:=v.length) (x:=x*c) (by omega);rw[ft,<-IB hy]at hs;have hM:=F3 N.toa6 (hv.at hx) hc (by omega) (by omega);generalize BW ((v.map (· * c)).take i) v.length=F0 at *;generalize x*c=y at *;(repeat' ((first|(apply AG<;>intro hc<;>try (exfalso;omega))|(apply A3;omega)|(refine BC (by assumption) ?_ rfl ?_;omega)|apply AE|refine AD (hM) ?_)<;>conv=>whnf))
  refine JA (enc:=eO) (some y) rfl (λ e=>by cases e<;>rfl) (by omega) ?_;(conv=>whnf)
  rw[hs];(repeat' ((first|(apply AR;omega)|fail)<;>conv=>whnf))
  exact BO [] (ih (i+1) (by omega) (by omega))
 obtain rfl:i=v.length:=by omega
 clear ih;have rh:(v.map (· * c)).length=v.length:=List.length_map _;rw[List.take_of_length_le (by omega),PU rh];(repeat' ((first|(apply AG<;>intro hc<;>try (exfalso;omega))|(refine C3 (λ_=>rfl) rfl ?_ ?_;(first|rfl|simp))|apply AE)<;>conv=>whnf))
 exact AW rfl (by simp only[A4,true_and];exact KC _)
abbrev IQ (q:Bool) (x:Rat):List AV:=rQ q q (decide (x.num<0)) (dg x.num.natAbs) (dg x.den)
theorem Tt (N:a6 L) (q:Bool) {x:Rat} {k:Nat} (hx:Bt k x) (hk:k<2199023255552):Ev L 97 [.agg (IQ q x)] (.int .i64 (q9 x.num)):=by
 have hs:=hx.sm hk;have:=nV N (decide (x.num<0)) q q (dg x.num.natAbs) (dg x.den) (hs.1.le (by omega)) (hs.2.le (by omega))
 rwa [F5]at this
theorem nA (N:a6 L) (q:Bool) {x y:Rat} {k l:Nat} (hx:Bt k x) (hy:Bt l y) (hk:k<2199023255552) (hl:l<2199023255552):Ev L 99 [.agg (eQ x),.agg (IQ q y)] (.agg (eQ (x*y))):=by
 have h1:=hx.sm hk;have h2:=hy.sm hl;have:=nU N 68719476736 (by omega) (decide (x.num<0)) (decide (y.num<0)) false false q q (dg x.num.natAbs) (dg x.den) (dg y.num.natAbs) (dg y.den) h1.1 h1.2 h2.1 h2.2
 rwa [F5,F5]at this
theorem nG (N:l7 L) (q1 q2 qb:Bool) (a b:List Rat) (k l:Nat) (hl:a.length=b.length) (ha:Bs k a) (hb:Bs l b) (hn:a.length<=64) (hk:k<=1000000000) (ka:l<=1000000000):Ev L 297 [.sl q1 (a.map eQ),.sl q2 (b.map (IQ qb))] (.agg (eQ (CE a b))):=by
 have hO:=E2 N.toa6 0 (by omega);rw[show ((0:Int):Rat)=0 from rfl]at hO;refine Ev.x N.MI rfl rfl ?_;(repeat' ((first|apply AY|apply AE|refine AD (hO) ?_)<;>conv=>whnf))
 refine CK (λ i=>a.length-i) (λ(i:Nat)=>i<=a.length) (λ i=>[(10,.int .i64 i)]) (λ i=>[(5,5,.bx (eQ (CE (a.take i) (b.take i))))]) [] [] 0 (by rw[show CE (a.take 0) (b.take 0)=0 from rfl];exact (by (conv=>whnf);exact ⟨rfl,rfl,rfl⟩)) (by omega) ?_;intro i p1 ih;by_cases hi:i<a.length
 ·obtain ⟨x,hx⟩ : ∃ x,a[i]? = some x:=⟨_,zE hi⟩
  obtain ⟨y,hy⟩ : ∃ y,b[i]? = some y:=⟨_,zE (by omega)⟩;have rn:a[(i:Int).toNat]? = some x:=hx;have Ex:b[(i:Int).toNat]? = some y:=hy;have Dp:=PT N.toa6 (ha.at hx) (by omega);have Gc:=Tt N.toa6 qb (hb.at hy) (by omega);have hM:=nA N.toa6 qb (ha.at hx) (hb.at hy) (by omega) (by omega);have hd:Bt (64*(k+l+1)) (CE (a.take i) (b.take i)):=by
   refine ((ha.take i).dot (hb.take i)).le (Nat.mul_le_mul_right _ ?_);rw[List.length_take];omega
  have hA:=HD N.toa6 hd ((ha.at hx).mul (hb.at hy)) (by omega) (by omega);rw[<-mA hx hy]at hA;have hz:x=0\/y=0->CE (a.take i) (b.take i)=CE (a.take (i+1)) (b.take (i+1)):=λ h=>by
   rw[mA hx hy];rcases h with h|h<;>rw[h]<;>grind
  by_cases h1:x=0
  ·have s1:q9 x.num=0:=N4.2 h1
   rw[s1]at Dp;rw[hz (Or.inl h1)];clear hA hz hd;(repeat' ((first|(apply AG<;>intro hc<;>try (exfalso;omega))|(apply AR;omega)|(refine BC (by assumption) ?_ rfl ?_;omega)|apply AE|refine AD (Dp) ?_)<;>conv=>whnf))
   exact BO [] (ih (i+1) (by omega) (by omega))
  ·have s1:q9 x.num≠0:=λ h=>h1 (N4.1 h)
   generalize q9 x.num=g1 at *;by_cases h2:y=0
   ·have s2:q9 y.num=0:=N4.2 h2
    rw[s2]at Gc;rw[hz (Or.inr h2)];clear hA hz hd;(repeat' ((first|(apply AG<;>intro hc<;>try (exfalso;omega))|(apply AR;omega)|(refine BC (by assumption) ?_ rfl ?_;omega)|apply AE|refine AD (Dp) ?_|refine AD (Gc) ?_)<;>conv=>whnf))
    exact BO [] (ih (i+1) (by omega) (by omega))
   ·have s2:q9 y.num≠0:=λ h=>h2 (N4.1 h)
    generalize q9 y.num=g2 at *;clear hz hd;generalize CE (a.take i) (b.take i)=w at *;generalize x*y=p at *;(repeat' ((first|(apply AG<;>intro hc<;>try (exfalso;omega))|(apply AR;omega)|(refine BC (by assumption) ?_ rfl ?_;omega)|apply AE|refine AD (Dp) ?_|refine AD (Gc) ?_|refine AD (hM) ?_|refine AD (hA) ?_)<;>conv=>whnf))
    exact BO [] (ih (i+1) (by omega) (by omega))
 obtain rfl:i=a.length:=by omega
 clear ih;rw[Qn rfl];(repeat' ((first|(apply AG<;>intro hc<;>try (exfalso;omega))|apply AE)<;>conv=>whnf))
 exact AW rfl (DH _)
theorem nF (N:l7 L) (q1 q2:Bool) (a b:List Rat) (k l:Nat) (hl:a.length=b.length) (ha:Bs k a) (hb:Bs l b) (hn:a.length<=64) (hk:k<=1000000000) (ka:l<=1000000000):Ev L 297 [.sl q1 (a.map eQ),.sl q2 (b.map eQ)] (.agg (eQ (CE a b))):=nG N q1 q2 false a b k l hl ha hb hn hk ka
theorem Su (N:l7 L) (q1 q2 q3:Bool) (a:List (List Rat)) (v:List Rat) (n k l:Nat) (hs:Sq n a) (hv:v.length=n) (ha:Ms k a) (hb:Bs l v) (hn:n<=4) (hk:k<=1000000000) (hl:l<=1000000000):Ev L 298 [.sl q1 (KF q3 a),.sl q2 (v.map eQ)] (.sl false ((GY a v).map eQ)):=by
 have df:=hs.l;have rh:(GY a v).length=n:=by rw[qX];exact df
 refine Ev.x N.MB rfl rfl ?_;(repeat' ((first|apply AY|apply AE)<;>conv=>whnf))
 refine DP (enc:=eO) none n rfl (by omega) (by omega) ?_;(conv=>whnf)
 (repeat' (apply AY<;>conv=>whnf))
 refine CK (λ i=>n-i) (λ(i:Nat)=>i<=n) (λ i=>[(12,.int .i64 i)]) (λ i=>[(9,9,.rw 3 ((BW ((GY a v).take i) n).map eO))]) [] [] 0 (by first|exact (by (conv=>whnf);exact ⟨rfl,rfl,rfl⟩)|(rw[List.take_zero,<-RS];exact (by (conv=>whnf);exact ⟨rfl,rfl,rfl⟩))) (by omega) ?_;intro i p1 ih;have ft:((GY a v).take i).length=i:=by rw[List.length_take];omega
 have zo:=HO (l:=(GY a v).take i) (m:=n) (by omega);by_cases hi:i<n
 ·obtain ⟨r,hr⟩ : ∃ r,a[i]? = some r:=⟨_,zE (by omega)⟩
  have yh:a[(i:Int).toNat]? = some r:=hr;have gp:=hs.at hr;have hy:(GY a v)[i]? = some (CE r v):=by rw[GY,List.getElem?_map,hr];rfl
  have j9:=K5 (l:=(GY a v).take i) (m:=n) (x:=CE r v) (by omega);rw[ft,<-IB hy]at j9;have hD:=λ q q'=>nF N q q' r v k l (by omega) (ha.at hr) hb (by omega) hk hl
  generalize BW ((GY a v).take i) n=F0 at *;generalize CE r v=y at *;(repeat' ((first|(apply AG<;>intro hc<;>try (exfalso;omega))|(apply A3;omega)|(refine BC (by assumption) ?_ rfl ?_;omega)|apply AE|refine AD (hD _ _) ?_)<;>conv=>whnf))
  refine JA (enc:=eO) (some y) rfl (λ e=>by cases e<;>rfl) (by omega) ?_;(conv=>whnf)
  rw[j9];(repeat' ((first|(apply AR;omega)|fail)<;>conv=>whnf))
  exact BO [] (ih (i+1) (by omega) (by omega))
 obtain rfl:i=n:=by omega
 clear ih;rw[List.take_of_length_le (by omega),PU rh];(repeat' ((first|(apply AG<;>intro hc<;>try (exfalso;omega))|apply AE)<;>conv=>whnf))
 refine C3 (enc:=eQ) (λ_=>rfl) rfl rh.symm ?_;(conv=>whnf)
 exact AW rfl (by simp only[A4,true_and];exact KC _)
end Go.b7

namespace Go.b7
open F
attribute [local irreducible] AA AF AM AC BT AQ A5 AZ BG A9 BS CN BH AU BI BR AB A1 AJ pw B1 BQ B9 CM CH BF BV BB B5
variable {L:Lib} (n:Nt)
set_option maxHeartbeats 1000000
end Go.b7

namespace Go.b7
open F
attribute [local irreducible] AA AF AM AC BT AQ A5 AZ BG A9 BS CN BH AU BI BR AB A1 AJ pw B1 BQ B9 CM CH BF BV BB B5
variable {L:Lib}
set_option maxHeartbeats 1000000
theorem bZ (I:j4 L) (D:m4 L) (b a:List Int) (q1 q2:Bool) (d c:Wd) (hd:WV d) (hc:WV c) (l1:1<=b.length/\b.length<=49) (l2:a.length<=8) (hb : ∀ v∈b,FT c v) (ha : ∀ v∈a,FT c v/\FT c (-v)) :
  Ev L 46 [.sl q1 (b.map CQ),.sl q2 (a.map CQ),.agg (F2 d),.agg (F2 c)] (.int .i64 0):=by
 have hav : ∀ v∈a,-16777216<=v/\v<=16777216:=λ v hv=>by
  obtain ⟨_,e1,e2⟩:=(ha v hv).1;obtain ⟨h1,h2,h3,h4⟩:=QS hc;omega
 refine Ev.x D.K4 rfl rfl ?_;(repeat' ((first|(apply AG<;>intro hc<;>try (exfalso;omega))|apply AY|apply AE|refine F9 (PR ⟨_,_,_,_⟩ I) (λ hf => ?_) (λ hf => ?_))<;>conv=>whnf))
 all_goals try (exact absurd hd (by assumption))
 all_goals try (exact absurd hc (by assumption))
 refine CK (λ i=>b.length-i) (λ(i:Nat)=>i<=b.length) (λ i=>[(36,.int .i64 i)]) (λ_=>[]) [] [] 0 (by (conv=>whnf);exact ⟨rfl,rfl,rfl⟩) (by omega) ?_;intro i p1 ih;(repeat' ((first|(apply AG<;>intro hc<;>try (exfalso;omega))|(apply AR;omega)|apply AY|(refine PH ?_ (λ_=>rfl) (λ e he => ?_);omega)|apply AE|refine F9 (RO ⟨_,_,_,_⟩ I _) (λ hf => ?_) (λ hf => ?_))<;>conv=>whnf))
 ·exact BO [] (ih (i+1) (by omega) (by omega))
 ·exact absurd (hb _ (zM he)) hf
 refine CK (λ i=>a.length-i) (λ(i:Nat)=>i<=a.length) (λ i=>[(47,.int .i64 i)]) (λ_=>[]) [] [] 0 (by (conv=>whnf);exact ⟨rfl,rfl,rfl⟩) (by omega) ?_;intro i p1 ih;(repeat' ((first|(apply AG<;>intro hc<;>try (exfalso;omega))|(refine PH ?_ (λ_=>rfl) (λ e he => ?_);omega)|apply AE|refine F9 (RO ⟨_,_,_,_⟩ I _) (λ hf => ?_) (λ hf => ?_))<;>conv=>whnf))
 ·have Kv:=hav _ (zM he)
  (repeat' ((first|(apply AR;omega)|(apply BT.neg;omega)|refine F9 (RO ⟨_,_,_,_⟩ I _) (λ hf => ?_) (λ hf => ?_))<;>conv=>whnf))
  ·exact BO [] (ih (i+1) (by omega) (by omega))
  ·exact absurd (ha _ (zM he)).2 hf
 ·exact absurd (ha _ (zM he)).1 hf
 ·exact CP rfl
theorem aR (ts:List (Int × Int)):EN (ts.map HB):=RG (λ_=>by simp [CB,A4]) ts
def DQ (l:List Int) (sg fr:Int):List (Int × Int):=(List.range l.length).map λ i:Nat=>(fr+i,sg*l.getD i 0)
theorem J2 (l:List Int) (sg fr:Int):(DQ l sg fr).length=l.length:=by simp [DQ]
theorem Afr {l:List Int} {i:Nat} {v:Int} (sg fr:Int) (h:l[i]? = some v):(DQ l sg fr)[i]? = some (fr+i,sg*v):=by
 have hi:=(zS h).1;simp only[DQ,List.getElem?_map,List.getElem?_range hi,Option.map_some,List.getD_eq_getElem?_getD,h,Option.getD_some]
theorem PQ (D:m4 L) (l:List Int) (q:Bool) (sg fr:Int) (hl:l.length<=1000000) (hs:sg=1\/sg = -1) (hf:0<=fr/\fr<=1000000) (hv : ∀ v∈l,-1000000000000<=v/\v<=1000000000000):Ev L 47 [.sl q (l.map CQ),.int .i64 sg,.int .i64 fr] (.sl false ((DQ l sg fr).map HB)):=by
 have hF:=J2 l sg fr;refine Ev.x D.K3 rfl rfl ?_;(repeat' ((first|apply AY|apply AE)<;>conv=>whnf))
 refine DP (enc:=HB) (0,0) l.length rfl rfl (by omega) ?_;(conv=>whnf)
 (repeat' (apply AY<;>conv=>whnf))
 refine EX (λ i _=>l.length-i) (λ(i:Nat) (o:List (Int × Int))=>i<=l.length/\o.length=(DQ l sg fr).length/\o.take i=(DQ l sg fr).take i) (λ i o=>[(7,.row 12 0 2 0 o.length),(15,.int .i64 i)]) (λ i o=>[(12,12,.rw 2 (o.map HB))]) [] [] 0 (List.replicate l.length (0,0)) (by rw[List.length_replicate];exact (by (conv=>whnf);exact ⟨rfl,rfl,rfl⟩)) ⟨by omega,by simp [hF],by simp⟩ ?_;intro i o ⟨p1,p2,p3⟩ ih;by_cases hi:i<l.length
 ·obtain ⟨v,Cw⟩ : ∃ v,l[i]? = some v:=⟨_,zE hi⟩
  have Iw:=hv v (zM Cw);have hmul : -1000000000000<=sg*v/\sg*v<=1000000000000:=by rcases hs with rfl|rfl<;>omega
  obtain ⟨f1,f2⟩:=QM p2 p3 (Afr sg fr Cw);(repeat' ((first|(apply AG<;>intro hc<;>try (exfalso;omega))|(apply A3;omega)|(apply AR;omega)|(apply FY;omega)|(refine BC (by assumption) ?_ rfl ?_;omega)|apply AE)<;>conv=>whnf))
  refine JA (enc:=HB) (fr+i,sg*v) rfl (λ_=>rfl) (by omega) ?_;(conv=>whnf)
  (repeat' ((first|(apply AR;omega)|fail)<;>conv=>whnf))
  exact BL [] (by rw[List.length_set];exact (by (conv=>whnf);exact ⟨rfl,rfl,rfl⟩)) (ih (i+1) (o.set i (fr+i,sg*v)) (by omega) ⟨by omega,f1,f2⟩)
 ·have ho:=X1 p2 p3 (by omega)
  (repeat' ((first|(apply AG<;>intro hc<;>try (exfalso;omega))|(refine C3 (λ_=>rfl) rfl ?_ ?_;(first|rfl|simp))|apply AE)<;>conv=>whnf))
  exact AW (by rw[ho]) (by simp [A4,aR])
def GW (l:List Nd):List (Int × Int):=l.flatMap λ n=>n.ts
theorem U6 (D:m4 L) (l:List Nd) (q:Bool) (ch:(GW l).length<=1000000) (hl:l.length<=1000000):Ev L 48 [.sl q (l.map RM)] (.sl false ((GW l).map HB)):=by
 refine Ev.x D.K2 rfl rfl ?_;(repeat' ((first|apply AY|apply AE)<;>conv=>whnf))
 refine EX (λ i _=>l.length-i) (λ(i:Nat) (o:List (Int × Int))=>i<=l.length/\o=GW (l.take i)) (λ i o=>[(3,.row 3 0 2 0 o.length),(8,.int .i64 i)]) (λ i o=>[(3,3,.rw 2 (o.map HB))]) [] [] 0 [] (by (conv=>whnf);exact ⟨rfl,rfl,rfl⟩) ⟨by omega,rfl⟩ ?_;intro i o ⟨p1,p2⟩ ih;(repeat' ((first|(apply AG<;>intro hc<;>try (exfalso;omega))|(refine PH ?_ (λ_=>rfl) (λ e he => ?_);omega)|(refine C3 (λ_=>rfl) rfl ?_ ?_;(first|rfl|simp))|apply AE)<;>conv=>whnf))
 ·have hj:GW (l.take (i+1))=o++e.ts:=by
   rw[List.take_add_one,he,p2];simp [GW]
  have hle:o.length+e.ts.length<=1000000:=by
   have:GW l=GW (l.take (i+1))++GW (l.drop (i+1)):=by
    unfold GW;rw[<-List.flatMap_append,List.take_append_drop]
   rw[this,hj]at ch;simp at ch;omega
  refine ZP (enc:=HB) rfl (λ_=>rfl) (by omega) (by omega) ?_;(conv=>whnf)
  (repeat' ((first|(apply AR;omega)|fail)<;>conv=>whnf))
  exact BL [(3,14)] (by (conv=>whnf);exact ⟨rfl,rfl,rfl⟩) (ih (i+1) _ (by omega) ⟨by omega,hj.symm⟩)
 ·rw[List.take_of_length_le (by omega)]at p2
  exact AW (by rw[p2]) (by simp [A4,aR])
theorem kI : ∀ (l:List Nd),(∀ n∈l,n.q=false)->EN (l.map RM)
 | [],_=>by simp [EN]
 | n::r,h=>by
  simp only[List.map_cons,EN,CB,A4,and_true];exact ⟨⟨h n (by simp),aR _⟩,kI r λ m hm=>h m (List.mem_cons_of_mem _ hm)⟩
theorem mK (n:Nt) (h1:n.qn=false) (h2:n.qx=false) (h3 : ∀ m∈n.nodes,m.q=false):CB (D9 n):=by
 simp only[CB,A4,true_and,and_true];exact ⟨⟨h1,kI _ h3⟩,h2,kH _⟩
theorem TS (n:Nt) (h1:n.qn=false) (h2:n.qx=false) (h3 : ∀ m∈n.nodes,m.q=false):A4 (.g8 [.agg (D9 n),.int .i64 0]):=by
 have h:=mK n h1 h2 h3;simp only[A4,CB,and_true,true_and]at h ⊢;exact h
def G9 (n:Nat) (first source:Int):List Int:=(List.range n).map λ i:Nat=>if i=0 then source else first+i-1
theorem aY {n i:Nat} {first source:Int} (h:i<n):(G9 n first source)[i]? = some (if i=0 then source else first+i-1):=by
 simp only[G9,List.getElem?_map,List.getElem?_range h,Option.map_some]
theorem Q5 {c:Wd} (hc:WV c) {v:Int} (h:FT c v) : -1000000000000<=v/\v<=1000000000000:=by
 obtain ⟨_,e1,e2⟩:=h;obtain ⟨h1,h2,h3,h4⟩:=QS hc;omega
def FP (b a:List Int) (d c:Wd):Nt :=
 ⟨d,c,((b.length-1+a.length:Nat):Int),false,[⟨false,DQ b 1 0++DQ a (-1) b.length⟩],false,G9 (b.length-1) 1 0++G9 a.length b.length ((b.length+a.length:Nat):Int),((b.length+a.length:Nat):Int)⟩
theorem Tw (I:j4 L) (D:m4 L) (b a:List Int) (q1 q2:Bool) (d c:Wd) (hd:WV d) (hc:WV c) (l1:1<=b.length/\b.length<=49) (l2:a.length<=8) (hb : ∀ v∈b,FT c v) (ha : ∀ v∈a,FT c v/\FT c (-v)) :
  Ev L 50 [.sl q1 (b.map CQ),.sl q2 (a.map CQ),.agg (F2 d),.agg (F2 c)] (.g8 [.agg (D9 (FP b a d c)),.int .i64 0]):=by
 have hw:=λ q q'=>bZ I D b a q q' d c hd hc l1 l2 hb ha
 have r1:=λ q=>PQ D b q 1 0 (by omega) (Or.inl rfl) (by omega) (λ v hv=>Q5 hc (hb v hv))
 have r2:=λ q=>PQ D a q (-1) ((b.length:Int)-1+1) (by omega) (Or.inr rfl) (by omega) (λ v hv=>Q5 hc (ha v hv).1)
 have r3:=λ q q' Dg=>U6 D [⟨q,DQ b 1 0⟩,⟨q',DQ a (-1) ((b.length:Int)-1+1)⟩] Dg (by simp [GW,J2];omega) (by simp)
 generalize hF:G9 (b.length-1) 1 0++G9 a.length b.length ((b.length+a.length:Nat):Int)=F;have nw:F.length=b.length-1+a.length:=by rw[<-hF];simp [G9]
 have wc : ∀ i:Nat,i<b.length-1->F[i]? = some (if i=0 then (0:Int) else 1+i-1):=λ i hi=>by
  rw[<-hF,List.getElem?_append_left (by simp [G9];omega)];exact aY hi
 have Kb : ∀ i:Nat,i<a.length->F[b.length-1+i]? = some (if i=0 then ((b.length+a.length:Nat):Int) else b.length+i-1):=λ i hi=>by
  rw[<-hF,List.getElem?_append_right (by simp [G9])];have:b.length-1+i-(G9 (b.length-1) 1 0).length=i:=by simp [G9]
  rw[this];exact aY hi
 refine Ev.x D.KY rfl rfl ?_;(repeat' ((first|(apply AG<;>intro hc<;>try (exfalso;omega))|(apply AR;omega)|(apply BM;omega)|apply AY|apply AE|refine AD (hw _ _) ?_)<;>conv=>whnf))
 refine DP (enc:=CQ) 0 (b.length-1+a.length) rfl (by omega) (by omega) ?_;(conv=>whnf)
 (repeat' ((first|(apply AR;omega)|refine I9 rfl rfl ?_|refine AD (r1 _) ?_|refine AD (r2 _) ?_|refine AD (r3 _ _ _) ?_)<;>conv=>whnf))
 refine G5 (b.length-1) (by omega) (by omega) ?_;(conv=>whnf)
 refine GS 1000 D.IP rfl rfl ?_;(repeat' (apply AE<;>conv=>whnf))
 refine EX (λ i _=>b.length-1-i) (λ(i:Nat) (o:List Int)=>i<=b.length-1/\o.length=F.length/\o.take i=F.take i) (λ i o=>[(9,.int .i64 i)]) (λ i o=>[(34,34,.rw 1 (o.map CQ))]) [] [] 0 (List.replicate (b.length-1+a.length) 0) (by (conv=>whnf);exact ⟨rfl,rfl,rfl⟩) ⟨by omega,by simp [nw],by simp⟩ ?_;intro i o ⟨p1,p2,p3⟩ ih;(repeat' ((first|(apply AG<;>intro hc<;>try (exfalso;omega))|(apply A3;omega)|(apply AR;omega)|(apply BM;omega)|apply AE)<;>conv=>whnf))
 ·obtain ⟨f1,f2⟩:=QM p2 p3 (wc i (by omega))
  refine GC i (if i=0 then (0:Int) else 1+i-1) (by omega) (by rw[if_pos (by omega)]) (λ_=>rfl) (by omega) ?_;(conv=>whnf)
  (repeat' ((first|(apply AR;omega)|fail)<;>conv=>whnf))
  exact BL [] (by (conv=>whnf);exact ⟨rfl,rfl,rfl⟩) (ih (i+1) _ (by omega) ⟨by omega,f1,f2⟩)
 ·obtain ⟨f1,f2⟩:=QM p2 p3 (wc i (by omega))
  refine GC i (if i=0 then (0:Int) else 1+i-1) (by omega) (by rw[if_neg (by omega)]) (λ_=>rfl) (by omega) ?_;(conv=>whnf)
  (repeat' ((first|(apply AR;omega)|fail)<;>conv=>whnf))
  exact BL [] (by (conv=>whnf);exact ⟨rfl,rfl,rfl⟩) (ih (i+1) _ (by omega) ⟨by omega,f1,f2⟩)
 obtain rfl:i=b.length-1:=by omega
 refine ⟨rfl,_,rfl,?_⟩;(conv=>whnf)
 skip
 refine wO (b.length-1) (by omega) (by omega) ?_;(conv=>whnf)
 (repeat' ((first|(apply AR;omega)|fail)<;>conv=>whnf))
 refine GS 1000 D.IP rfl rfl ?_;(repeat' (apply AE<;>conv=>whnf))
 refine EX (λ i _=>a.length-i) (λ(i:Nat) (o:List Int)=>i<=a.length/\o.length=F.length/\o.take (b.length-1+i)=F.take (b.length-1+i)) (λ i o=>[(9,.int .i64 i)]) (λ i o=>[(34,34,.rw 1 (o.map CQ))]) [] [] 0 o (by (conv=>whnf);exact ⟨rfl,rfl,rfl⟩) ⟨by omega,p2,p3⟩ ?_;clear p1 p2 p3 ih;intro i o ⟨p1,p2,p3⟩ ih;(repeat' ((first|(apply AG<;>intro hc<;>try (exfalso;omega))|(apply A3;omega)|(apply AR;omega)|(apply BM;omega)|apply AE)<;>conv=>whnf))
 ·obtain ⟨f1,f2⟩:=QM p2 p3 (Kb i (by omega))
  refine GC (b.length-1+i) (if i=0 then ((b.length+a.length:Nat):Int) else b.length+i-1) (by omega) (by rw[if_pos (by omega)];simp only[List.cons.injEq,AV.int.injEq,true_and,and_true];omega) (λ_=>rfl) (by omega) ?_;(conv=>whnf)
  (repeat' ((first|(apply AR;omega)|fail)<;>conv=>whnf))
  exact BL [] (by (conv=>whnf);exact ⟨rfl,rfl,rfl⟩) (ih (i+1) _ (by omega) ⟨by omega,f1,f2⟩)
 ·obtain ⟨f1,f2⟩:=QM p2 p3 (Kb i (by omega))
  refine GC (b.length-1+i) (if i=0 then ((b.length+a.length:Nat):Int) else b.length+i-1) (by omega) (by rw[if_neg (by omega)];simp only[List.cons.injEq,AV.int.injEq,true_and,and_true];omega) (λ_=>rfl) (by omega) ?_;(conv=>whnf)
  (repeat' ((first|(apply AR;omega)|fail)<;>conv=>whnf))
  exact BL [] (by (conv=>whnf);exact ⟨rfl,rfl,rfl⟩) (ih (i+1) _ (by omega) ⟨by omega,f1,f2⟩)
 have ho:=X1 p2 p3 (by omega);subst ho;refine ⟨rfl,_,rfl,?_⟩;(conv=>whnf)
 (repeat' (refine FF rfl ?_<;>conv=>whnf))
 refine C3 (enc:=CQ) (λ_=>rfl) rfl nw.symm ?_;(conv=>whnf)
 skip
 have e1:(b.length:Int)-1+1=b.length:=by omega
 have e2:(b.length:Int)-1+a.length=((b.length-1+a.length:Nat):Int):=by omega
 have e3:(b.length:Int)-1+a.length+1=((b.length+a.length:Nat):Int):=by omega
 refine AW ?_ ?_
 ·rw[e1,e3,e2]
  simp only[FP,hF,List.map_cons,List.map_nil,GW,List.flatMap_cons,List.flatMap_nil,List.append_nil];rfl
 ·exact TS (FP b a d c) rfl rfl (by simp [FP])
def CF (b a:List Int):Nat:=max (b.length-1) a.length
def FQ (b a:List Int) (d c:Wd):Nt :=
 ⟨d,c,(CF b a:Int),false,[⟨false,DQ [pw c.f] 1 0++DQ a (-1) 1⟩,⟨false,DQ (b.take 1) 1 (CF b a+1)++DQ (b.drop 1) 1 1⟩],false,G9 (CF b a) 1 (CF b a+1),CF b a+1+1⟩
theorem Acc (I:j4 L) (D:m4 L) (b a:List Int) (q1 q2:Bool) (d c:Wd) (hd:WV d) (hc:WV c) (l1:1<=b.length/\b.length<=49) (l2:a.length<=8) (hb : ∀ v∈b,FT c v) (ha : ∀ v∈a,FT c v/\FT c (-v)) :
  Ev L 51 [.sl q1 (b.map CQ),.sl q2 (a.map CQ),.agg (F2 d),.agg (F2 c)] (.g8 [.agg (D9 (FQ b a d c)),.int .i64 0]):=by
 have hw:=λ q q'=>bZ I D b a q q' d c hd hc l1 l2 hb ha
 have q6:=hc;unfold WV at q6;have En:=JI (n:=c.f) (m:=23) (by omega);have qj:pw 23=8388608:=by unfold pw;rfl
 have uy:=GF c.f;have r1:=λ q=>PQ D [pw c.f] q 1 0 (by simp) (Or.inl rfl) (by omega) (by simp;omega)
 have r2:=λ q=>PQ D a q (-1) 1 (by omega) (Or.inr rfl) (by omega) (λ v hv=>Q5 hc (ha v hv).1)
 have r3:=λ q=>PQ D (b.take 1) q 1 (CF b a+1) (by simp;omega) (Or.inl rfl) (by unfold CF;omega) (λ v hv=>Q5 hc (hb v (List.mem_of_mem_take hv)))
 have r4:=λ q=>PQ D (b.drop 1) q 1 1 (by simp;omega) (Or.inl rfl) (by omega) (λ v hv=>Q5 hc (hb v (List.mem_of_mem_drop hv)))
 have j1:=λ q q' Dg=>U6 D [⟨q,DQ [pw c.f] 1 0⟩,⟨q',DQ a (-1) 1⟩] Dg (by simp [GW,J2];omega) (by simp)
 have j2:=λ q q' Dg=>U6 D [⟨q,DQ (b.take 1) 1 (CF b a+1)⟩,⟨q',DQ (b.drop 1) 1 1⟩] Dg (by simp [GW,J2];omega) (by simp)
 generalize hF:G9 (CF b a) 1 ((CF b a:Int)+1)=F;have nw:F.length=CF b a:=by rw[<-hF];simp [G9]
 have wc : ∀ i:Nat,i<CF b a->F[i]? = some (if i=0 then ((CF b a:Int)+1) else 1+i-1):=λ i hi=>by
  rw[<-hF];exact aY hi
 have fm:(CF b a:Int)<=1000:=by unfold CF;omega
 refine Ev.x D.KZ rfl rfl ?_;(repeat' ((first|(apply AG<;>intro hc<;>try (exfalso;omega))|(apply AR;omega)|(apply BM;omega)|apply AY|apply AE|refine AD (hw _ _) ?_)<;>conv=>whnf))
 all_goals first|rw[show (a.length:Int)=(CF b a:Int) by unfold CF;omega]|rw[show (b.length:Int)-1=(CF b a:Int) by unfold CF;omega]
 all_goals (
  generalize hmm:CF b a=mx at *;refine DP (enc:=CQ) 0 mx rfl rfl (by omega) ?_;(conv=>whnf)
  (repeat' ((first|(apply AR;omega)|(refine FN ?_ (λ_ _ => ?_);omega)|refine FF rfl ?_|refine I9 rfl rfl ?_|refine AD (r1 _) ?_|refine AD (r2 _) ?_|refine AD (j1 _ _ _) ?_)<;>conv=>whnf))
  refine QD (k:=1) (λ_=>rfl) (by omega) ?_;(conv=>whnf)
  (repeat' (refine AD (r3 _) ?_<;>conv=>whnf))
  refine iY (k:=1) (λ_=>rfl) (by omega) ?_;(conv=>whnf)
  (repeat' ((first|refine I9 rfl rfl ?_|refine AD (r4 _) ?_|refine AD (j2 _ _ _) ?_)<;>conv=>whnf))
  refine GS 1000 D.IP rfl rfl ?_;(repeat' (apply AE<;>conv=>whnf))
  refine EX (λ i _=>mx-i) (λ(i:Nat) (o:List Int)=>i<=mx/\o.length=F.length/\o.take i=F.take i) (λ i o=>[(9,.int .i64 i)]) (λ i o=>[(36,36,.rw 1 (o.map CQ))]) [] [] 0 (List.replicate mx 0) (by (conv=>whnf);exact ⟨rfl,rfl,rfl⟩) ⟨by omega,by simp [nw],by simp⟩ ?_;intro i o ⟨p1,p2,p3⟩ ih;(repeat' ((first|(apply AG<;>intro hc<;>try (exfalso;omega))|(apply A3;omega)|(apply AR;omega)|(apply BM;omega)|apply AE)<;>conv=>whnf))
  ·obtain ⟨f1,f2⟩:=QM p2 p3 (wc i (by omega))
   refine GC i (if i=0 then ((mx:Int)+1) else 1+i-1) (by omega) (by rw[if_pos (by omega)]) (λ_=>rfl) (by omega) ?_;(conv=>whnf)
   (repeat' ((first|(apply AR;omega)|fail)<;>conv=>whnf))
   exact BL [] (by (conv=>whnf);exact ⟨rfl,rfl,rfl⟩) (ih (i+1) _ (by omega) ⟨by omega,f1,f2⟩)
  ·obtain ⟨f1,f2⟩:=QM p2 p3 (wc i (by omega))
   refine GC i (if i=0 then ((mx:Int)+1) else 1+i-1) (by omega) (by rw[if_neg (by omega)]) (λ_=>rfl) (by omega) ?_;(conv=>whnf)
   (repeat' ((first|(apply AR;omega)|fail)<;>conv=>whnf))
   exact BL [] (by (conv=>whnf);exact ⟨rfl,rfl,rfl⟩) (ih (i+1) _ (by omega) ⟨by omega,f1,f2⟩)
  have ho:=X1 p2 p3 (by omega);subst ho;refine ⟨rfl,_,rfl,?_⟩;(conv=>whnf)
  (repeat' (refine I9 rfl rfl ?_<;>conv=>whnf))
  refine C3 (enc:=CQ) (λ_=>rfl) rfl nw.symm ?_;(conv=>whnf)
  refine AW ?_ ?_
  ·simp only[FQ,hF,hmm,List.map_cons,List.map_nil,GW,List.flatMap_cons,List.flatMap_nil,List.append_nil]
   rfl
  ·exact TS (FQ b a d c) rfl rfl (by simp [FQ]))
theorem pT {A B C:List (Int × Int)} (h:A.length<=100) (h2:B.length+C.length<=1000):(A++B).length+C.length<=1000000:=by rw[List.length_append];omega
theorem mY (D:m4 L) (A B:List (Int × Int)) (q q1 q2:Bool) (h:A.length+B.length<=1000000):Ev L 48 [.sl q [[.sl q1 (A.map HB)],[.sl q2 (B.map HB)]]] (.sl false ((A++B).map HB)):=by
 have:=U6 D [⟨q1,A⟩,⟨q2,B⟩] q (by simpa [GW] using h) (by simp)
 simpa [GW] using this
theorem mX (D:m4 L) (B:List (Int × Int)) (q q1 q2:Bool) (h:B.length<=1000000):Ev L 48 [.sl q [[.sl q1 []],[.sl q2 (B.map HB)]]] (.sl false (B.map HB)):=by
 have:=U6 D [⟨q1,[]⟩,⟨q2,B⟩] q (by simpa [GW] using h) (by simp)
 rw[show GW [⟨q1,[]⟩,⟨q2,B⟩]=B by simp [GW]]at this;exact this
def O8 (b a:List Int) (c:Wd) (mx k:Nat):List (Int × Int) :=
 (if k<b.length then DQ ((b.take (k+1)).drop k) 1 0 else [])++(if 1<=k/\k<=a.length then DQ ((a.take k).drop (k-1)) (-1) (mx+1) else [])++(if k<mx then DQ [pw c.f] 1 (k+1) else [])
def IC (b a:List Int) (c:Wd) (mx k:Nat):List Nd:=(List.range k).map λ i=>⟨false,O8 b a c mx i⟩
def FU (b a:List Int) (d c:Wd):Nt :=
 ⟨d,c,(CF b a:Int),false,IC b a c (CF b a) (CF b a+1),false,(List.range (CF b a)).map λ i:Nat=>(CF b a:Int)+1+(i+1:Nat),CF b a+1⟩
theorem uS (b a:List Int) (c:Wd) (mx k:Nat):IC b a c mx (k+1)=IC b a c mx k++[⟨false,O8 b a c mx k⟩]:=sB _ _
set_option maxHeartbeats 40000000 in
theorem Tx (I:j4 L) (D:m4 L) (b a:List Int) (q1 q2:Bool) (d c:Wd) (hd:WV d) (hc:WV c) (l1:1<=b.length/\b.length<=49) (l2:a.length<=8) (hb : ∀ v∈b,FT c v) (ha : ∀ v∈a,FT c v/\FT c (-v)) :
  Ev L 52 [.sl q1 (b.map CQ),.sl q2 (a.map CQ),.agg (F2 d),.agg (F2 c)] (.g8 [.agg (D9 (FU b a d c)),.int .i64 0]):=by
 have hw:=λ q q'=>bZ I D b a q q' d c hd hc l1 l2 hb ha
 have q6:=hc;unfold WV at q6;have En:=JI (n:=c.f) (m:=23) (by omega);have qj:pw 23=8388608:=by unfold pw;rfl
 have uy:=GF c.f;have hx1:b.length<=CF b a+1:=by unfold CF;omega
 have vh:a.length<=CF b a:=by unfold CF;omega
 have js : ∀ k,k<=CF b a->k<b.length\/(1<=k/\k<=a.length):=by unfold CF;omega
 have ru:=λ(q:Bool) (k:Nat) (hk:k<=1000)=>PQ D [pw c.f] q 1 (k+1) (by simp) (Or.inl rfl) (by omega) (by simp;omega)
 have rb:=λ(q:Bool) (i j:Nat)=>PQ D ((b.take j).drop i) q 1 0 (by simp;omega) (Or.inl rfl) (by omega) (λ v hv=>Q5 hc (hb v (List.mem_of_mem_take (List.mem_of_mem_drop hv))))
 have fm:(CF b a:Int)<=1000:=by unfold CF;omega
 have ra:=λ(q:Bool) (i j:Nat)=>PQ D ((a.take j).drop i) q (-1) (CF b a+1) (by simp;omega) (Or.inr rfl) (by omega) (λ v hv=>Q5 hc (ha v (List.mem_of_mem_take (List.mem_of_mem_drop hv))).1)
 have hS:FU b a d c=⟨d,c,(CF b a:Int),false,IC b a c (CF b a) (CF b a+1),false,(List.range (CF b a)).map λ i:Nat=>(CF b a:Int)+1+(i+1:Nat),CF b a+1⟩:=rfl;have n6:=TS (FU b a d c) rfl rfl (by simp [FU,IC]);refine Ev.x D.K0 rfl rfl ?_;(repeat' ((first|(apply AG<;>intro hc<;>try (exfalso;omega))|(apply AR;omega)|(apply BM;omega)|apply AY|apply AE|refine AD (hw _ _) ?_)<;>conv=>whnf))
 all_goals first|rw[show (a.length:Int)=(CF b a:Int) by unfold CF;omega]|rw[show (b.length:Int)-1=(CF b a:Int) by unfold CF;omega]
 all_goals (
  generalize CF b a=mx at *;generalize hF:((List.range mx).map λ i:Nat=>(mx:Int)+1+(i+1:Nat))=F at *;have nw:F.length=mx:=by rw[<-hF];simp
  have wc : ∀ i:Nat,i<mx->F[i]? = some ((mx:Int)+1+(i+1:Nat)):=λ i hi=>by
   rw[<-hF,List.getElem?_map,List.getElem?_range hi];rfl
  refine DP (enc:=CQ) 0 mx rfl rfl (by omega) ?_;(conv=>whnf)
  (repeat' ((first|(apply AR;omega)|(refine FN ?_ (λ_ _ => ?_);omega))<;>conv=>whnf))
  refine ZO (λ k _ _ _=>mx+1-k) (λ(k:Nat) (ns:List Nd) (o:List Int) (fl:Bool)=>k<=mx+1/\ns=IC b a c mx k/\fl=decide (k=0)/\o.length=F.length/\o.take (k-1)=F.take (k-1)) (λ k ns o fl=>[(47,.int .i64 k)]) (λ k ns o fl=>bif fl then [(38,38,.rw 1 (o.map CQ))] else [(13,13,.bx [.int .i64 d.b,.int .i64 d.f,.int .i64 d.r,.int .i64 d.o,.int .i64 c.b,.int .i64 c.f,.int .i64 c.r,.int .i64 c.o,.int .i64 mx,.row 1000 0 1 0 ns.length,.row 38 0 1 0 mx,.int .i64 (mx+1)]),(1000,106,.rw 1 (ns.map RM)),(38,38,.rw 1 (o.map CQ))]) [] [] 0 [] (List.replicate mx 0) true (by (conv=>whnf);exact ⟨rfl,rfl,rfl⟩) ⟨by omega,rfl,rfl,by simp [nw],by simp⟩ ?_;intro k ns o fl ⟨p1,p2,p3,p4,p5⟩ ih;by_cases hk:k<=mx
  ·have fg:=js k hk
   have iy:O8 b a c mx k=(if k<b.length then DQ ((b.take (k+1)).drop k) 1 0 else [])++(if 1<=k/\k<=a.length then DQ ((a.take k).drop (k-1)) (-1) (mx+1) else [])++(if k<mx then DQ [pw c.f] 1 (k+1) else []):=rfl;have Mu:=λ q=>rb q (k:Int).toNat ((k:Int)+1).toNat
   have ra1:=λ q=>ra q ((k:Int)-1).toNat (k:Int).toNat
   have Mx:=λ q=>ru q k (by omega)
   have e1:((k:Int)+1).toNat=k+1:=by omega
   have e2:(k:Int).toNat=k:=by omega
   have e3:((k:Int)-1).toNat=k-1:=by omega
   have xx:(IC b a c mx k).length=k:=by simp [IC]
   have ch:=J2 (List.drop (k:Int).toNat (List.take ((k:Int)+1).toNat b)) 1 0;have eu:=J2 (List.drop ((k:Int)-1).toNat (List.take (k:Int).toNat a)) (-1) (mx+1);have Ek:=J2 [pw c.f] 1 (k+1);simp only[List.length_drop,List.length_take,List.length_cons,List.length_nil]at ch eu Ek;have ke:ns.length=k:=by rw[p2];exact xx
   have hE : ∀ X,X=O8 b a c mx k->[AV.sl false (X.map HB)]=RM ⟨false,O8 b a c mx k⟩:=λ X h=>by rw[h]
   cases fl
   ·have hk1:1<=k:=by
     rcases k with _|k
     ·simp at p3
     ·omega
    (repeat' ((first|(apply AG<;>intro hc<;>try (exfalso;omega))|(apply A3;omega)|(apply AR;omega)|(apply BM;omega)|apply AY|(refine W1 (λ_=>rfl) (ZQ ?_ ?_);omega)|refine FF rfl ?_|refine I9 rfl rfl ?_|refine iZ rfl ?_|apply AE|refine AD (Mu _) ?_|refine AD (ra1 _) ?_|refine AD (Mx _) ?_|refine AD (mX D _ _ _ _ (by omega)) ?_|refine AD (mY D _ _ _ _ _ (by first|omega|exact pT (by omega) (by omega))) ?_)<;>conv=>whnf))
    all_goals (
     obtain ⟨f1,f2⟩:=QM (i:=k-1) p4 p5 (wc (k-1) (by omega));refine GC (k-1) ((mx:Int)+1+((k-1+1:Nat):Int)) (by omega) (by rw[show k-1+1=k by omega]) (λ_=>rfl) (by omega) ?_;(conv=>whnf)
     (repeat' (apply EF<;>conv=>whnf))
     refine FV (enc:=RM) ⟨false,O8 b a c mx k⟩ (hE _ ?_) rfl rfl (by omega) (by omega) ?_
     ·rw[iy]
      split<;>split<;>split<;>first|(exfalso;omega)|simp only[List.append_nil,List.nil_append,List.append_assoc,e1,e2,e3]
     ·(conv=>whnf)
      (repeat' ((first|(apply AR;omega)|fail)<;>conv=>whnf))
      exact BL [(1000,106)] (by (conv=>whnf);exact ⟨rfl,rfl,rfl⟩) (ih (k+1) _ _ false (by omega) ⟨by omega,by rw[uS,p2],by simp,f1,by rw[show k+1-1=k-1+1 by omega];exact f2⟩))
   ·have Hm:k=0:=by simpa using p3
    (repeat' ((first|(apply AG<;>intro hc<;>try (exfalso;omega))|(apply AR;omega)|apply AY|(refine W1 (λ_=>rfl) (ZQ ?_ ?_);omega)|apply EF|refine FF rfl ?_|refine I9 rfl rfl ?_|refine iZ rfl ?_|apply AE|refine AD (Mu _) ?_|refine AD (Mx _) ?_|refine AD (mX D _ _ _ _ (by omega)) ?_|refine AD (mY D _ _ _ _ _ (by first|omega|exact pT (by omega) (by omega))) ?_)<;>conv=>whnf))
    all_goals (
     refine SU (enc:=RM) ⟨false,O8 b a c mx k⟩ (hE _ ?_) rfl (by omega) ?_
     ·rw[iy]
      split<;>split<;>split<;>first|(exfalso;omega)|simp only[List.append_nil,List.nil_append,List.append_assoc,e1,e2,e3]
     ·(conv=>whnf)
      (repeat' ((first|(apply AR;omega)|fail)<;>conv=>whnf))
      exact BO [(1000,106)] (ih (k+1) [⟨false,O8 b a c mx k⟩] o false (by omega) ⟨by omega,by rw[uS,Hm];rfl,by simp,p4,by rw[Hm];rfl⟩))
  ·obtain rfl:k=mx+1:=by omega
   cases fl
   ·(repeat' ((first|(apply AG<;>intro hc<;>try (exfalso;omega))|(refine C3 (λ_=>rfl) rfl ?_ ?_;(first|rfl|simp))|apply AE)<;>conv=>whnf))
    have ho:=X1 p4 p5 (by omega);subst ho;refine C3 (enc:=CQ) (λ_=>rfl) rfl nw.symm ?_;(conv=>whnf)
    skip
    refine AW ?_ n6;rw[hS,p2]
   ·simp at p3)
end Go.b7



namespace Go.b7
open F
attribute [local irreducible] AA AF AM AC BT AQ A5 AZ BG A9 BS CN BH AU BI BR AB A1 AJ pw B1 BQ B9 CM CH BF BV BB B5
variable {L:Lib}
set_option maxHeartbeats 4000000
end Go.b7

namespace Go.b7
open F
attribute [local irreducible] AA AF AM AC BT AQ A5 AZ BG A9 BS CN BH AU BI BR AB A1 AJ pw B1 BQ B9 CM CH BF BV BB B5
variable {L:Lib}
variable (b a:List Int) (d c:Wd)
variable {b a d c}
set_option maxHeartbeats 4000000
end Go.b7

namespace Go.b7
open F
attribute [local irreducible] AA AF AM AC BT AQ A5 AZ BG A9 BS CN BH AU BI BR AB A1 AJ pw B1 BQ B9 CM CH BF BV BB B5
variable {L:Lib}
set_option maxHeartbeats 8000000
end Go.b7

namespace Go.b7
open F
attribute [local irreducible] AA AF AM AC BT AQ A5 AZ BG A9 BS CN BH AU BI BR AB A1 AJ pw B1 BQ B9 CM CH BF BV BB B5
attribute [local irreducible] wN
variable {L:Lib}
set_option maxHeartbeats 8000000
end Go.b7

namespace Go.b7
open F
attribute [local irreducible] AA AF AM AC BT AQ A5 AZ BG A9 BS CN BH AU BI BR AB A1 AJ pw B1 BQ B9 CM CH BF BV BB B5
variable {L:Lib}
set_option maxHeartbeats 16000000
set_option maxRecDepth 8000
theorem AfR {l:List Rat} {i:Nat} {x:Rat} (h:l[i]? = some x):B0 (l.take (i+1))=B0 (l.take i)+CJ x:=by rw[IB h,sX]
theorem nK (N:l7 L) (q:Bool) (v:List Rat) (k:Nat) (hv:Bs k v) (hn:v.length<=1000) (hk:k<=1000000000):Ev L 300 [.sl q (v.map eQ)] (.agg (eQ (B0 v))):=by
 have hO:=E2 N.toa6 0 (by omega);rw[show ((0:Int):Rat)=0 from rfl]at hO;refine Ev.x N.MS rfl rfl ?_;(repeat' ((first|apply AY|apply AE|refine AD (hO) ?_)<;>conv=>whnf))
 refine CK (λ i=>v.length-i) (λ(i:Nat)=>i<=v.length) (λ i=>[(9,.int .i64 i)]) (λ i=>[(3,3,.bx (eQ (B0 (v.take i))))]) [] [] 0 (by rw[show B0 (v.take 0)=0 from rfl];exact (by (conv=>whnf);exact ⟨rfl,rfl,rfl⟩)) (by omega) ?_;intro i p1 ih;by_cases hi:i<v.length
 ·obtain ⟨x,hx⟩ : ∃ x,v[i]? = some x:=⟨_,zE hi⟩
  have rn:v[(i:Int).toNat]? = some x:=hx;have hA:=U4 N.tov9 (hv.at hx) (by omega);have hz:Bt (1000*(k+1)) (B0 (v.take i)):=(T4 (hv.take i)).le (Nat.mul_le_mul_right _ (by rw[List.length_take];omega));have hP:=HD N.toa6 hz (OM (hv.at hx)) (by omega) (by omega);rw[<-AfR hx]at hP;generalize B0 (v.take i)=w at *;generalize CJ x=y at *;(repeat' ((first|(apply AG<;>intro hc<;>try (exfalso;omega))|(apply AR;omega)|(refine BC (by assumption) ?_ rfl ?_;omega)|apply AE|refine AD (hA) ?_|refine AD (hP) ?_)<;>conv=>whnf))
  exact BO [] (ih (i+1) (by omega) (by omega))
 obtain rfl:i=v.length:=by omega
 clear ih;rw[List.take_of_length_le (Nat.le_refl _)];(repeat' ((first|(apply AG<;>intro hc<;>try (exfalso;omega))|apply AE)<;>conv=>whnf))
 exact AW rfl (DH _)
theorem Wp {l:List Rat} {i:Nat} {x:Rat} (h:l[i]? = some x):C8 (l.take (i+1))=HP (C8 (l.take i)) x:=by rw[IB h,Wo]
theorem SC {x y:Rat}:0<q9 (x-y).num↔y<x:=by
 have h:=fY (x-y).num;have e1:(x-y).num<0↔x<y:=by rw[eF];constructor<;>intro h<;>grind
 have e2:(x-y).num=0↔x=y:=by rw[Rat.num_eq_zero];constructor<;>intro h<;>grind
 rcases h with ⟨h1,h2⟩|⟨h1,h2⟩|⟨h1,h2⟩
 ·have:=e1.1 h2
  rw[h1];constructor
  ·intro h;omega
  ·intro h;grind
 ·have:=e2.1 h2
  rw[h1];constructor
  ·intro h;omega
  ·intro h;grind
 ·have h3 : ¬ x<y:=λ h=>by have:=e1.2 h;omega
  have h4 : ¬ x=y:=λ h=>by have:=e2.2 h;omega
  rw[h1];constructor
  ·intro _;grind
  ·intro _;omega
theorem Sw (N:l7 L) (q:Bool) (v:List Rat) (k:Nat) (hv:Bs k v) (hn:v.length<=1000000) (hk:k<=1000000000000):Ev L 301 [.sl q (v.map eQ)] (.agg (eQ (C8 v))):=by
 have hO:=E2 N.toa6 0 (by omega);rw[show ((0:Int):Rat)=0 from rfl]at hO;refine Ev.x N.MM rfl rfl ?_;(repeat' ((first|apply AY|apply AE|refine AD (hO) ?_)<;>conv=>whnf))
 refine CK (λ i=>v.length-i) (λ(i:Nat)=>i<=v.length) (λ i=>[(10,.int .i64 i)]) (λ i=>[(3,3,.bx (eQ (C8 (v.take i))))]) [] [] 0 (by rw[show C8 (v.take 0)=0 from rfl];exact (by (conv=>whnf);exact ⟨rfl,rfl,rfl⟩)) (by omega) ?_;intro i p1 ih;by_cases hi:i<v.length
 ·obtain ⟨x,hx⟩ : ∃ x,v[i]? = some x:=⟨_,zE hi⟩
  have rn:v[(i:Int).toNat]? = some x:=hx;have hA:=U4 N.tov9 (hv.at hx) (by omega);have hC:=TC N.too4 (OM (hv.at hx)) (VM (hv.take i)) (by omega) (by omega);have hg:=SC (x:=CJ x) (y:=C8 (v.take i));have hs:C8 (v.take (i+1))=if C8 (v.take i)<CJ x then CJ x else C8 (v.take i):=Wp hx
  by_cases h:C8 (v.take i)<CJ x
  ·rw[if_pos h]at hs
   have h1:=hg.2 h;rw[<-hs]at hA hC h1;generalize q9 (C8 (v.take (i+1))-C8 (v.take i)).num=g at *;(repeat' ((first|(apply AG<;>intro hc<;>try (exfalso;omega))|(apply AR;omega)|(refine BC (by assumption) ?_ rfl ?_;omega)|apply AE|refine AD (hA) ?_|refine AD (hC) ?_)<;>conv=>whnf))
   exact BO [] (ih (i+1) (by omega) (by omega))
  ·rw[if_neg h]at hs
   have h1 : ¬ 0<q9 (CJ x-C8 (v.take i)).num:=λ e=>h (hg.1 e)
   rw[<-hs]at hC h1 ⊢;clear hg h hs;generalize q9 (CJ x-C8 (v.take (i+1))).num=g at *;generalize CJ x=y at *;(repeat' ((first|(apply AG<;>intro hc<;>try (exfalso;omega))|(apply AR;omega)|(refine BC (by assumption) ?_ rfl ?_;omega)|apply AE|refine AD (hA) ?_|refine AD (hC) ?_)<;>conv=>whnf))
   exact BO [] (ih (i+1) (by omega) (by omega))
 obtain rfl:i=v.length:=by omega
 clear ih;rw[List.take_of_length_le (Nat.le_refl _)];(repeat' ((first|(apply AG<;>intro hc<;>try (exfalso;omega))|apply AE)<;>conv=>whnf))
 exact AW rfl (DH _)
theorem Sv (N:l7 L) (q q':Bool) (a:List (List Rat)) (D:Rat) (n k l:Nat) (hs:Sq n a) (ha:Ms k a) (hD:Bt l D) (hn:n<=16) (hk:k<=1000000000) (hl:l<=1000000000):Ev L 302 [.sl q (KF q' a),.agg (eQ D)] (.bool (decide (∀ r∈a,B0 r+B0 r<=D))):=by
 have df:=hs.l;refine Ev.x N.MG rfl rfl ?_;(repeat' ((first|apply AY|apply AE)<;>conv=>whnf))
 refine CK (λ i=>n-i) (λ(i:Nat)=>i<=n /\ ∀ r∈a.take i,B0 r+B0 r<=D) (λ i=>[(10,.int .i64 i)]) (λ_=>[]) [] [] 0 (by (conv=>whnf);exact ⟨rfl,rfl,rfl⟩) ⟨by omega,λ r hr=>by cases hr⟩ ?_;intro i ⟨p1,p2⟩ ih;by_cases hi:i<n
 ·obtain ⟨r,hr⟩ : ∃ r,a[i]? = some r:=⟨_,zE (by omega)⟩
  have yh:a[(i:Int).toNat]? = some r:=hr;have gp:=hs.at hr;have hT:=λ q=>nK N q r k (ha.at hr) (by omega) hk
  have hz:Bt (16*(k+1)) (B0 r):=(T4 (ha.at hr)).le (Nat.mul_le_mul_right _ (by omega));have hP:=HD N.toa6 hz hz (by omega) (by omega);have hC:=TC N.too4 (hz.add hz) hD (by omega) (by omega);have hg:=SC (x:=B0 r+B0 r) (y:=D);by_cases h:D<B0 r+B0 r
  ·have ri : ¬ ∀ r∈a,B0 r+B0 r<=D:=λ e=>by
    have:=e r (zM hr)
    grind
   have:=hg.2 h
   rw[decide_eq_false ri];clear ri p2 ih hz h hg;generalize q9 (B0 r+B0 r-D).num=g at *;generalize B0 r+B0 r=w at *;generalize B0 r=z at *;(repeat' ((first|(apply AG<;>intro hc<;>try (exfalso;omega))|(refine BC (by assumption) ?_ rfl ?_;omega)|apply AE|refine AD (hT _) ?_|refine AD (hP) ?_|refine AD (hC) ?_)<;>conv=>whnf))
   exact G7 rfl
  ·have Jc : ∀ r∈a.take (i+1),B0 r+B0 r<=D:=λ s hs=>by
    rw[IB hr]at hs;rcases List.mem_append.1 hs with hs|hs
    ·exact p2 s hs
    ·obtain rfl:=List.mem_singleton.1 hs
     grind
   have : ¬ 0<q9 (B0 r+B0 r-D).num:=λ e=>h (hg.1 e)
   clear p2 hz h hg;generalize q9 (B0 r+B0 r-D).num=g at *;generalize B0 r+B0 r=w at *;generalize B0 r=z at *;(repeat' ((first|(apply AG<;>intro hc<;>try (exfalso;omega))|(apply AR;omega)|(refine BC (by assumption) ?_ rfl ?_;omega)|apply AE|refine AD (hT _) ?_|refine AD (hP) ?_|refine AD (hC) ?_)<;>conv=>whnf))
   exact BO [] (ih (i+1) (by omega) ⟨by omega,Jc⟩)
 obtain rfl:i=n:=by omega
 clear ih;rw[List.take_of_length_le (by omega)]at p2;rw[decide_eq_true p2];(repeat' ((first|(apply AG<;>intro hc<;>try (exfalso;omega))|apply AE)<;>conv=>whnf))
 exact G7 rfl
theorem qN {α:Type} {a b:List α} {j:Nat} {y:α} (hl:a.length=b.length) (hy:a[j]? = some y):(a.take j++b.drop j).set j y=a.take (j+1)++b.drop (j+1):=by
 have h:=(zS hy).1;rw[List.set_append_right _ _ (by rw[List.length_take];omega),List.length_take,Nat.min_eq_left (by omega),Nat.sub_self,List.drop_eq_getElem_cons (by omega),List.set_cons_zero,List.take_add_one,hy,Option.toList_some,List.append_assoc];rfl
def HL (Q:List (List Rat)) (n j:Nat):List (Option (Nat × List (List AV))):=Q.map λ r=>some (3,(BW (r.take j) n).map eO)
def KD (Q:List (List Rat)) (n j m:Nat):List (Option (Nat × List (List AV))):=(HL Q n (j+1)).take m++(HL Q n j).drop m
theorem PN (Q:List (List Rat)) (n j:Nat):(HL Q n j).length=Q.length:=by simp [HL]
theorem Ps (Q:List (List Rat)) (n j:Nat):KD Q n j 0=HL Q n j:=by simp [KD]
theorem Pp (Q:List (List Rat)) (n j:Nat):KD Q n j Q.length=HL Q n (j+1):=by
 rw[KD,List.take_of_length_le (by rw[PN];exact Nat.le_refl _),List.drop_of_length_le (by rw[PN];exact Nat.le_refl _),List.append_nil]
theorem Pq {Q:List (List Rat)} {n j m:Nat} (h:m<=Q.length):(KD Q n j m).length=Q.length:=by
 rw[KD,List.length_append,List.length_take,List.length_drop,PN,PN];omega
theorem Po {Q:List (List Rat)} {n j m:Nat} {r:List Rat} (hr:Q[m]? = some r):(KD Q n j m)[m]? = some (some (3,(BW (r.take j) n).map eO)):=by
 have h:=(zS hr).1;rw[KD,List.getElem?_append_right (by rw[List.length_take,PN];omega),List.length_take,PN,Nat.min_eq_left (by omega),Nat.sub_self,List.getElem?_drop,Nat.add_zero,HL,List.getElem?_map,hr];rfl
theorem Pr {Q:List (List Rat)} {n j m:Nat} {r:List Rat} (hr:Q[m]? = some r):(KD Q n j m).set m (some (3,(BW (r.take (j+1)) n).map eO))=KD Q n j (m+1):=by
 have h:=(zS hr).1;exact qN (by rw[PN,PN]) (by rw[HL,List.getElem?_map,hr];rfl)
theorem wY {R:List (Option (Nat × List (List AV)))} {i z:Nat} {es:List (List AV)} {K:Nat->List (List AV)->Prop} (h:R[i]? = some (some (z,es))) (hk:K z es):BQ R i K:=by
 unfold BQ;exact ⟨z,es,h,hk⟩
theorem Pu {Q:List (List Rat)} {n:Nat} (h : ∀ r∈Q,r.length=n):HL Q n n=ET 3 eQ Q:=by
 refine List.map_congr_left λ r hr => ?_
 have:=h r hr
 rw[List.take_of_length_le (by omega),PU this]
theorem Sx (N:l7 L) (q q':Bool) (a:List (List Rat)) (n k:Nat) (hs:Sq n a) (ha:Ms k a) (hn:n<=4) (hk:k<=1000000000):Ev L 299 [.sl q (KF q' a)] (.sl false (eM (JH a a n))):=by
 have df:=hs.l;have Km:Sq n (JH a a n):=Sq.mul hs.l a;have hQa : ∀ (i:Nat) (r:List Rat),a[i]? = some r->(JH a a n)[i]? = some (HS r a n):=λ i r hr=>by rw[JH,List.getElem?_map,hr];rfl
 have hRa : ∀ (j:Nat) (r:List Rat),j<n->(HS r a n)[j]? = some (CE r (ER a j)):=λ j r hj=>by rw[HS,List.getElem?_map,List.getElem?_range hj];rfl
 have Av:=Km.l;have Kl:=Km.r;generalize JH a a n=Q at *;refine Ev.x N.MP rfl rfl ?_;(repeat' ((first|apply AY|apply AE)<;>conv=>whnf))
 unfold CH;refine ⟨⟨by omega,by omega,by simp only[EZ];omega,by omega⟩,?_⟩;rw[Int.toNat_natCast,df];(conv=>whnf)
 skip
 have pt:=PN Q n 0;have Dh : ∀ i,i<n->(HL Q n 0)[i]? = some (some (3,(List.replicate n (none:Option Rat)).map eO)):=λ i hi=>by
  rw[HL,List.getElem?_map,zE (by omega),Option.map_some,List.take_zero,RS]
 refine CK (λ i=>n-i) (λ(i:Nat)=>i<=n) (λ i=>[(15,.int .i64 i)]) (λ i=>[(13,13,.mx (fz none ((HL Q n 0).take i) n))]) [] [] 0 (by first|exact (by (conv=>whnf);exact ⟨rfl,rfl,rfl⟩)|(rw[List.take_zero,show fz (none:Option (Nat × List (List AV))) [] n=List.replicate n none by simp [fz]];exact (by (conv=>whnf);exact ⟨rfl,rfl,rfl⟩))) (by omega) ?_;intro i p1 ih;have ft:((HL Q n 0).take i).length=i:=by rw[List.length_take];omega
 have du:=cX (z:=(none:Option (Nat × List (List AV)))) (l:=(HL Q n 0).take i) (m:=n) (by omega);by_cases hi:i<n
 ·have po:=cY (z:=(none:Option (Nat × List (List AV)))) (x:=some (3,(List.replicate n (none:Option Rat)).map eO)) (l:=(HL Q n 0).take i) (m:=n) (by omega)
  rw[ft,<-IB (Dh i hi)]at po;generalize fz (none:Option (Nat × List (List AV))) ((HL Q n 0).take i) n=J at *;(repeat' ((first|(apply AG<;>intro hc<;>try (exfalso;omega))|apply AE)<;>conv=>whnf))
  refine DP (enc:=eO) none n rfl rfl (by omega) ?_;(conv=>whnf)
  (repeat' ((first|(apply A3;omega)|fail)<;>conv=>whnf))
  unfold AM B9;refine ⟨by simp,by omega,?_⟩;(conv=>whnf)
  rw[show 0+((i:Int)).toNat=i by omega,po];(repeat' ((first|(apply AR;omega)|fail)<;>conv=>whnf))
  exact BO [] (ih (i+1) (by omega) (by omega))
 have ei:i=n:=by omega
 clear ih du;rw[ei,List.take_of_length_le (by omega),cW (by omega)];(repeat' ((first|(apply AG<;>intro hc<;>try (exfalso;omega))|apply AE)<;>conv=>whnf))
 refine DP (enc:=eO) none n rfl rfl (by omega) ?_;(conv=>whnf)
 skip
 refine EX (λ j _=>n-j) (λ(j:Nat) (C:List (Option Rat))=>j<=n/\C.length=n) (λ j _=>[(27,.int .i64 j)]) (λ j C=>[(25,25,.rw 3 (C.map eO)),(13,13,.mx (HL Q n j))]) [] [] 0 (List.replicate n none) (by (conv=>whnf);exact ⟨rfl,rfl,rfl⟩) ⟨by omega,by simp⟩ ?_;intro j C ⟨r1,r2⟩ jh;by_cases hj:j<n
 ·have n6:(ER a j).length=n:=by rw[Pm];exact df
  have Ais:((ER a j).map some).length=n:=by rw[List.length_map];exact n6
  (repeat' ((first|(apply AG<;>intro hc<;>try (exfalso;omega))|apply AE)<;>conv=>whnf))
  refine CK (λ i=>n-i) (λ(i:Nat)=>i<=n) (λ i=>[(31,.int .i64 i)]) (λ i=>[(25,25,.rw 3 ((((ER a j).map some).take i++C.drop i).map eO))]) [] [] 0 (by rw[List.take_zero,List.drop_zero,List.nil_append];exact (by (conv=>whnf);exact ⟨rfl,rfl,rfl⟩)) (by omega) ?_;intro i2 s1 kh;have rh:(((ER a j).map some).take i2++C.drop i2).length=n:=by rw[List.length_append,List.length_take,List.length_drop];omega
  by_cases ti:i2<n
  ·obtain ⟨r,hr⟩ : ∃ r,a[i2]? = some r:=⟨_,zE (by omega)⟩
   have gp:=hs.at hr;obtain ⟨x,hx⟩ : ∃ x,r[j]? = some x:=⟨_,zE (by omega)⟩;have yh:a[(i2:Int).toNat]? = some r:=hr;have rn:r[(j:Int).toNat]? = some x:=hx;have hcx:((ER a j).map some)[i2]? = some (some x):=by
    rw[List.getElem?_map,ER,List.getElem?_map,hr];simp only[Option.map_some,List.getD_eq_getElem?_getD,hx,Option.getD_some]
   have j9:=qN (a:=(ER a j).map some) (b:=C) (by omega) hcx;generalize ((ER a j).map some).take i2++C.drop i2=W at *;(repeat' ((first|(apply AG<;>intro hc<;>try (exfalso;omega))|(apply A3;omega)|(refine BC (by assumption) ?_ rfl ?_;omega)|apply AE)<;>conv=>whnf))
   refine JA (enc:=eO) (some x) rfl (λ e=>by cases e<;>rfl) (by omega) ?_;(conv=>whnf)
   rw[j9];(repeat' ((first|(apply AR;omega)|fail)<;>conv=>whnf))
   exact BO [] (kh (i2+1) (by omega) (by omega))
  obtain rfl:i2=n:=by omega
  clear kh rh;rw[List.take_of_length_le (by omega),List.drop_of_length_le (by omega),List.append_nil,show ((ER a j).map some).map eO=(ER a j).map eQ by rw[List.map_map];rfl];(repeat' ((first|(apply AG<;>intro hc<;>try (exfalso;omega))|apply AE)<;>conv=>whnf))
  refine CK (λ i=>i2-i) (λ(i:Nat)=>i<=i2) (λ i=>[(46,.int .i64 i)]) (λ i=>[(13,13,.mx (KD Q i2 j i))]) [] [] 0 (by rw[Ps];exact (by (conv=>whnf);exact ⟨rfl,rfl,rfl⟩)) (by omega) ?_;intro i3 s2 lh;have rh:=Pq (Q:=Q) (n:=i2) (j:=j) (m:=i3) (by omega);by_cases zl:i3<i2
  ·obtain ⟨r,hr⟩ : ∃ r,a[i3]? = some r:=⟨_,zE (by omega)⟩
   have gp:=hs.at hr;have yh:a[(i3:Int).toNat]? = some r:=hr;have hq:=hQa i3 r hr;have lg:=Po (n:=i2) (j:=j) hq;have fb:=Pr (n:=i2) (j:=j) hq;have Ly:=hRa j r hj;have Ll:(HS r a i2).length=i2:=Kl _ (zM hq);have Ls:((HS r a i2).take j).length=j:=by rw[List.length_take];omega
   have po:=K5 (l:=(HS r a i2).take j) (m:=i2) (x:=CE r (ER a j)) (by omega);rw[Ls,<-IB Ly]at po;have du:=HO (l:=(HS r a i2).take j) (m:=i2) (by omega);rw[<-po]at fb;have hD:=λ q q'=>nF N q q' r (ER a j) k k (by omega) (ha.at hr) (Ms.col ha j) (by omega) hk hk
   clear hq Ly po Ls Ll;generalize BW ((HS r a i2).take j) i2=W at *;generalize CE r (ER a j)=y at *;generalize KD Q i2 j i3=R0 at *;(repeat' ((first|(apply AG<;>intro hc<;>try (exfalso;omega))|(apply A3;omega)|apply AE)<;>conv=>whnf))
   refine ZW (r:=some (3,W.map eO)) (by rw[Nat.zero_add,Int.toNat_natCast];exact lg) ?_;(conv=>whnf)
   (repeat' ((first|(refine BC (by assumption) ?_ rfl ?_;omega)|fail)<;>conv=>whnf))
   refine C3 (enc:=eQ) (λ_=>rfl) rfl n6.symm ?_;(conv=>whnf)
   (repeat' (refine AD (hD _ _) ?_<;>conv=>whnf))
   refine A3 (by rw[List.length_map];omega) ?_;(conv=>whnf)
   skip
   refine wY (z:=3) (es:=W.map eO) (by rw[Nat.zero_add,Int.toNat_natCast];exact lg) ?_;(conv=>whnf)
   refine JA (enc:=eO) (some y) rfl (λ e=>by cases e<;>rfl) (by omega) ?_;(conv=>whnf)
   unfold CM;refine ⟨by rw[List.length_map,List.length_map,List.length_set],?_⟩;rw[show 0+((i3:Int)).toNat=i3 by omega,fb];(conv=>whnf)
   (repeat' ((first|(apply AR;omega)|fail)<;>conv=>whnf))
   exact BO [] (lh (i3+1) (by omega) (by omega))
  obtain rfl:i3=i2:=by omega
  clear lh rh;have uq:=Pp Q i3 j;rw[Av]at uq;rw[uq];(repeat' ((first|(apply AG<;>intro hc<;>try (exfalso;omega))|(apply AR;omega)|apply AE)<;>conv=>whnf))
  rw[show (ER a j).map eQ=((ER a j).map some).map eO by rw[List.map_map];rfl];exact BO [] (jh (j+1) ((ER a j).map some) (by omega) ⟨by omega,by rw[List.length_map];exact n6⟩)
 have ej:j=n:=by omega
 clear jh;rw[ej,Pu Kl];(repeat' ((first|(apply AG<;>intro hc<;>try (exfalso;omega))|apply AE)<;>conv=>whnf))
 refine PI (λ_=>rfl) rfl (by omega) ?_;(conv=>whnf)
 exact AW rfl (Pa Q)
abbrev HA (q:Bool) (R:List (List Rat)) (D:Rat) (p:Int) (T:Rat):List AV:=[.sl false (KF q R)]++eQ D++[.int .i64 p]++eQ T
theorem aP (R:List (List Rat)) (D:Rat) (p:Int) (T:Rat) (e:Int):A4 (.g8 [.agg (HA false R D p T),.int .i64 e]):=by
 have h1:=aQ R;have h2:=DH D;have h3:=DH T;simp only[A4,CB,true_and,and_true,HA,List.cons_append,List.nil_append]at h1 h2 h3 ⊢;exact ⟨h1,h2.1,h2.2,h3.1,h3.2⟩
theorem R8 {i:Nat} (h:i<=6):2^i<=64/\(2^i=64->i=6)/\1<=2^i:=by
 obtain rfl|rfl|rfl|rfl|rfl|rfl|rfl:i=0\/i=1\/i=2\/i=3\/i=4\/i=5\/i=6:=by omega
 all_goals decide
theorem YR {D:Rat} {d:Nat} (h:Bt d D) : ∀ j:Nat,Bt (j*d) (D^j)
 | 0=>by rw[Rat.pow_zero];exact Bt.one _
 | j+1=>by
  rw[Rat.pow_succ];exact ((YR h j).mul h).le (by rw[Nat.succ_mul];omega)
theorem R4 {S M:Nat} (h:S<=2^M):Bt M (S:Rat):=by
 refine ⟨?_,?_⟩
 ·rw[Rat.num_natCast,Int.natAbs_natCast];exact h
 ·rw[Rat.den_natCast];exact Nat.one_le_two_pow
theorem OZ {S:Nat} (h:0<S):(0:Rat)<(S:Rat):=by
 have:=Rat.natCast_lt_natCast.2 h
 exact this
theorem nJ (N:l7 L) (q q':Bool) (a:List (List Rat)) (n k:Nat) (hs:Sq n a) (ha:Ms k a) (hn:n<=4) (hk:k<=100000) :
  ∃ v,Ev L 303 [.sl q (KF q' a)] v/\((∃ i,i<=6/\KS n a i/\v = .g8 [.agg (HA false (B6 (F7 a.flatten) a) (F7 a.flatten) ((2^i:Nat):Int) (F7 a.flatten^(2^i+2^i-1))),.int .i64 0]) \/
   ((∀ j,j<=6->GD (DF n a j)=false)/\v = .g8 [.agg [.sl false [],.bool false,.sl false [],.sl false [],.int .i64 0,.bool false,.sl false [],.sl false []],.int .i64 14])):=by
 have df:=hs.l;have yc:n*n<=4*4:=Nat.mul_le_mul hn hn;have Cc:n*n*k<=16*k:=Nat.mul_le_mul_right k yc;have du:a.flatten.length<=64:=by
  have : ∀ (a:List (List Rat)),(∀ r∈a,r.length=n)->a.flatten.length=a.length*n:=by
   intro a;induction a with
   | nil=>intro _;simp
   | cons r a ih =>
    intro h;rw[List.flatten_cons,List.length_append,ih λ x hx=>h x (List.mem_cons_of_mem _ hx),h r List.mem_cons_self,List.length_cons,Nat.succ_mul,Nat.add_comm]
  rw[this a hs.r,df];omega
 have ko:=U7 N q q' a k ha du (by omega) (by omega);have hO:=E2 N.toa6 1 (by omega);rw[show ((1:Int):Rat)=1 from rfl]at hO;obtain ⟨D0,eD,d1,d2,d3⟩:=gE hs ha;have ow:Bt (16*k) (D0:Rat):=R4 (Nat.le_trans d2 (Nat.pow_le_pow_right (by omega) Cc));have hDp:(0:Rat)<(D0:Rat):=OZ d1;have Ka:=bM (Nat.le_trans d2 (Nat.pow_le_pow_right (by omega) Cc));have Kn:=gM hs hn d3;rw[eD]at ko ⊢;generalize (D0:Rat)=D at *;clear eD d1 d2 d3;have wu:(B6 D a).length=n:=by rw[sZ];exact df
 have Gg : ∀ (i:Nat) (r:List Rat),a[i]? = some r->(B6 D a)[i]? = some (r.map (· * D)):=λ i r hr=>AfS hr
 have tn : ∀ i,Sq n (B6 (DU D i) (DF n a i)):=λ i=>gC _ (gL hs i)
 have rj : ∀ i,i<=6->Ms 300000000 (B6 (DU D i) (DF n a i)):=λ i hi r hr x hx=>((Kn i r hr x hx).le (by have:=AgE (k:=k) i (by omega);omega)).bt
 have x6 : ∀ i,i<=6->Bt 300000000 (DU D i):=λ i hi=>((Ka i).le (by
  have:=(R8 hi).1
  have:=Nat.mul_le_mul_right (16*k) this
  omega)).bt
 have Jz:=λ(i:Nat) (q q':Bool) (hi:i<=6)=>Sv N q q' (B6 (DU D i) (DF n a i)) (DU D i) n 300000000 300000000 (tn i) (rj i hi) (x6 i hi) (by omega) (by omega) (by omega)
 have Ax:=λ(i:Nat) (q q':Bool) (hi:i<=6)=>Sx N q q' (B6 (DU D i) (DF n a i)) n 300000000 (tn i) (rj i hi) hn (by omega)
 have Kh:=λ(i:Nat) (hi:i<=6)=>F3 N.toa6 (x6 i hi) (x6 i hi) (by omega) (by omega)
 have j9 : ∀ i,JH (B6 (DU D i) (DF n a i)) (B6 (DU D i) (DF n a i)) n=B6 (DU D (i+1)) (DF n a (i+1)):=λ i=>tS n a D i
 have Bh : ∀ i,(∀ r∈B6 (DU D i) (DF n a i),B0 r+B0 r<=DU D i)↔GD (DF n a i)=true:=λ i=>Nn hDp
 have Kf:=λ(j:Nat) (hj:j<=128)=>F3 N.toa6 (YR ow j) ow (show j*(16*k)<2199023255552 by
  have:=Nat.mul_le_mul_right (16*k) hj
  omega) (by omega)
 have Bm : ∀ (i:Nat) (q q':Bool),i<=6->Ev L 302 [.sl q (KF q' (B6 (DU D i) (DF n a i))),.agg (eQ (DU D i))] (.bool (GD (DF n a i))):=λ i q q' hi=>by
  have:=Jz i q q' hi
  rwa [show decide (∀ r∈B6 (DU D i) (DF n a i),B0 r+B0 r<=DU D i)=GD (DF n a i) by rw[Bool.eq_iff_iff,decide_eq_true_iff];exact Bh i]at this
 have Aw : ∀ (i:Nat) (q q':Bool),i<=6->Ev L 299 [.sl q (KF q' (B6 (DU D i) (DF n a i)))] (.sl false (eM (B6 (DU D (i+1)) (DF n a (i+1))))):=λ i q q' hi=>by
  have:=Ax i q q' hi
  rwa [j9]at this
 have il : ∀ i,i<=6->Ev L 99 [.agg (eQ (DU D i)),.agg (eQ (DU D i))] (.agg (eQ (DU D (i+1)))):=Kh;have Fy : ∀ j:Nat,j<=128->Ev L 99 [.agg (eQ (D^j)),.agg (eQ D)] (.agg (eQ (D^(j+1)))):=λ j hj=>by
  have:=Kf j hj
  rwa [<-Rat.pow_succ]at this
 have nc : ∀ q q':Bool,Ev L 302 [.sl q (KF q' (B6 D a)),.agg (eQ D)] (.bool (GD (DF n a 0))):=λ q q'=>Bm 0 q q' (by omega)
 have hS0 : ∀ q q':Bool,Ev L 299 [.sl q (KF q' (B6 D a))] (.sl false (eM (B6 (DU D 1) (DF n a 1)))):=λ q q'=>Aw 0 q q' (by omega)
 have hM0:Ev L 99 [.agg (eQ D),.agg (eQ D)] (.agg (eQ (DU D 1))):=il 0 (by omega);clear Jz Ax Kh Kf j9 Bh rj x6 tn Kn Ka;refine Ev.xE N.MQ rfl rfl ?_;by_cases h0:n=0
 ·obtain rfl:a=[]:=List.length_eq_zero_iff.1 (by omega)
  have hb:GD (DF n [] 0)=true:=rfl;have ui:=nc false false;rw[hb]at ui;have hC2:Ev L 302 [.sl false [],.agg (eQ D)] (.bool true):=ui;have Kk:=Fy 0 (by omega);rw[Rat.pow_zero]at Kk;(repeat' ((first|apply AY|apply AE|refine AD (ko) ?_|refine AD (hO) ?_)<;>conv=>whnf))
  refine FB ?_;(repeat' ((first|(apply AG<;>intro hc<;>try (exfalso;omega))|apply AE)<;>conv=>whnf))
  refine FB ?_;(repeat' ((first|(apply BM;omega)|(apply FY;omega)|apply AE|refine AD (hC2) ?_)<;>conv=>whnf))
  refine FB ?_;(repeat' ((first|(apply AG<;>intro hc<;>try (exfalso;omega))|(apply AR;omega)|apply AE|refine AD (Kk) ?_)<;>conv=>whnf))
  refine FB ?_;(repeat' ((first|(apply AG<;>intro hc<;>try (exfalso;omega))|apply AE)<;>conv=>whnf))
  refine ⟨.g8 [.agg (HA false [] D 1 (D^1)),.int .i64 0],?_,Or.inl ⟨0,by omega,⟨rfl,λ j hj=>absurd hj (by omega)⟩,rfl⟩⟩;exact AW rfl (aP [] D 1 (D^1) 0)
 (repeat' ((first|apply AY|apply AE|refine AD (ko) ?_|refine AD (hO) ?_)<;>conv=>whnf))
 refine EX (λ i _=>n-i) (λ(i:Nat) (fl:Bool)=>i<=n/\fl=decide (i=0)) (λ i _=>[(15,.int .i64 i)]) (λ i fl=>bif fl then [] else [(4,4,.bx ([.row 1000 0 1 0 i]++eQ D++[.int .i64 1]++eQ 1)),(1000,26,.rw 1 (((B6 D a).take i).map λ r=>[AV.sl false (r.map eQ)]))]) [] [] 0 true (by (conv=>whnf);exact ⟨rfl,rfl,rfl⟩) ⟨by omega,rfl⟩ ?_;intro i fl ⟨p1,p2⟩ ih;have gp:((B6 D a).take i).length=i:=by rw[List.length_take];omega
 by_cases hi:i<n
 ·obtain ⟨r,hr⟩ : ∃ r,a[i]? = some r:=⟨_,zE (by omega)⟩
  have yh:a[(i:Int).toNat]? = some r:=hr;have cj:=hs.at hr;have Ay:=λ q=>U8 N q r D k (16*k) (ha.at hr) ow (by omega) (by omega) (by omega)
  have lg:=Gg i r hr;generalize r.map (· * D)=w at *;cases fl
  ·have mr:i≠0:=by simpa using p2.symm
   (repeat' ((first|(apply AG<;>intro hc<;>try (exfalso;omega))|(refine BC (by assumption) ?_ rfl ?_;omega)|apply EF|apply AE|refine AD (Ay _) ?_)<;>conv=>whnf))
   refine FV (l:=(B6 D a).take i) (z:=1) (bytes:=24) (enc:=λ r:List Rat=>[AV.sl false (r.map eQ)]) w rfl gp.symm rfl (by omega) (by omega) ?_;(conv=>whnf)
   (repeat' ((first|(apply AR;omega)|fail)<;>conv=>whnf))
   rw[<-IB lg,show ((B6 D a).take (i+1)).length=i+1 by rw[List.length_take];omega];exact BO [(1000,26)] (ih (i+1) false (by omega) ⟨by omega,by simp⟩)
  ·have mr:i=0:=by simpa using p2.symm
   subst mr;(repeat' ((first|(apply AG<;>intro hc<;>try (exfalso;omega))|(refine BC (by assumption) ?_ rfl ?_;omega)|apply EF|apply AE|refine AD (Ay _) ?_)<;>conv=>whnf))
   refine SU (enc:=λ r:List Rat=>[AV.sl false (r.map eQ)]) w rfl rfl (by omega) ?_;(conv=>whnf)
   (repeat' ((first|(apply AR;omega)|fail)<;>conv=>whnf))
   rw[show [w]=(B6 D a).take (0+1) by rw[IB lg];rfl];exact BO [(1000,26)] (ih 1 false (by omega) ⟨by omega,by simp⟩)
 have ei:i=n:=by omega
 obtain rfl:fl=false:=by rw[p2];simp;omega
 clear ih p2 gp;rw[ei,List.take_of_length_le (by omega)];(repeat' ((first|(apply AG<;>intro hc<;>try (exfalso;omega))|apply AE)<;>conv=>whnf))
 refine EX (λ i _=>7-i) (λ(i:Nat) (fl:Bool)=>i<=6/\(fl=true->i=0) /\ ∀ j,j<i->GD (DF n a j)=false) (λ i fl=>[(7,bif fl then .row 1000 0 1 0 n else .sl false (eM (B6 (DU D i) (DF n a i))))]) (λ i _=>[(8,8,.bx (eQ (DU D i))),(4,4,.bx ([.row 1000 0 1 0 n]++eQ D++[.int .i64 ((2^i:Nat):Int)]++eQ 1))]) [] [] 0 true (by (conv=>whnf);exact ⟨rfl,rfl,rfl⟩) ⟨by omega,λ_=>rfl,λ j hj=>absurd hj (by omega)⟩ ?_;intro i fl ⟨s1,s2,s3⟩ jh;obtain ⟨g1,g2,g3⟩:=R8 s1;have uy:((2^(i+1):Nat):Int)=((2^i:Nat):Int)*2:=by rw[Nat.pow_succ];omega
 have Bp:=λ q q'=>Bm i q q' s1
 have nn:=λ q q'=>Aw i q q' s1
 have hmi:=il i s1;cases hb:GD (DF n a i)
 ·rw[hb]at Bp
  by_cases h6:i=6
  ·have e64:((2^i:Nat):Int)=64:=by rw[h6];rfl
   have oy : ∀ j,j<=6->GD (DF n a j)=false:=λ j hj=>by
    by_cases h:j=6
    ·rw[h,<-h6];exact hb
    ·exact s3 j (by omega)
   cases fl
   ·rw[e64]
    (repeat' ((first|(apply AG<;>intro hc<;>try (exfalso;omega))|apply AE|refine AD (Bp _ _) ?_)<;>conv=>whnf))
    exact ⟨_,AW rfl (by simp [A4,CB,EN]),Or.inr ⟨oy,rfl⟩⟩
   ·exact absurd (s2 rfl) (by omega)
  ·have AiZ:((2^i:Nat):Int)≠64:=λ e=>h6 (g2 (by omega))
   have mw : ∀ j,j<i+1->GD (DF n a j)=false:=λ j hj=>by
    by_cases h:j=i
    ·rw[h];exact hb
    ·exact s3 j (by omega)
   cases fl
   ·generalize 2^i=P at *
    (repeat' ((first|(apply AG<;>intro hc<;>try (exfalso;omega))|(apply FY;omega)|apply AE|refine AD (Bp _ _) ?_|refine AD (nn _ _) ?_|refine AD (hmi) ?_)<;>conv=>whnf))
    rw[<-uy];exact BO [] (jh (i+1) false (by omega) ⟨by omega,(λ h=>by cases h),mw⟩)
   ·obtain rfl:=s2 rfl
    have ui:=nc;rw[hb]at ui;generalize 2^0=P at *;(repeat' (apply AE<;>conv=>whnf))
    refine C3 (enc:=λ r:List Rat=>[AV.sl false (r.map eQ)]) (λ_=>rfl) rfl wu.symm ?_;(conv=>whnf)
    (repeat' ((first|(apply AG<;>intro hc<;>try (exfalso;omega))|refine AD (ui _ _) ?_)<;>conv=>whnf))
    refine C3 (enc:=λ r:List Rat=>[AV.sl false (r.map eQ)]) (λ_=>rfl) rfl wu.symm ?_;(conv=>whnf)
    (repeat' ((first|(apply FY;omega)|refine AD (hS0 _ _) ?_|refine AD (hM0) ?_)<;>conv=>whnf))
    rw[<-uy];exact BO [] (jh (0+1) false (by omega) ⟨by omega,(λ h=>by cases h),mw⟩)
 ·rw[hb]at Bp
  have Hf:KS n a i:=⟨hb,s3⟩;have v5 : ∀ r:AV,r = .g8 [.agg (HA false (B6 D a) D ((2^i:Nat):Int) (D^(2^i+2^i-1))),.int .i64 0]->((∃ i,i<=6/\KS n a i/\r = .g8 [.agg (HA false (B6 D a) D ((2^i:Nat):Int) (D^(2^i+2^i-1))),.int .i64 0])\/((∀ j,j<=6->GD (DF n a j)=false)/\r = .g8 [.agg [.sl false [],.bool false,.sl false [],.sl false [],.int .i64 0,.bool false,.sl false [],.sl false []],.int .i64 14])):=λ r hr=>Or.inl ⟨i,s1,Hf,hr⟩
  clear uy jh;generalize 2^i=P at *;cases fl
  ·(repeat' ((first|(apply BM;omega)|(apply FY;omega)|apply AE|refine AD (Bp _ _) ?_)<;>conv=>whnf))
   refine CK (λ j=>P+P-1-j) (λ(j:Nat)=>j<=P+P-1) (λ j=>[(54,.int .i64 j)]) (λ j=>[(4,4,.bx ([.row 1000 0 1 0 n]++eQ D++[.int .i64 (P:Int)]++eQ (D^j)))]) [] [] 0 (by rw[Rat.pow_zero];exact (by (conv=>whnf);exact ⟨rfl,rfl,rfl⟩)) (by omega) ?_;intro j t1 kh;by_cases hj:j<P+P-1
   ·have hl:=Fy j (by omega)
    (repeat' ((first|(apply AG<;>intro hc<;>try (exfalso;omega))|(apply AR;omega)|apply AE|refine AD (hl) ?_)<;>conv=>whnf))
    exact BO [] (kh (j+1) (by omega) (by omega))
   have ej:j=P+P-1:=by omega
   clear kh;rw[ej];(repeat' ((first|(apply AG<;>intro hc<;>try (exfalso;omega))|apply AE)<;>conv=>whnf))
   refine ⟨.g8 [.agg (HA false (B6 D a) D (P:Int) (D^(P+P-1))),.int .i64 0],?_,v5 _ rfl⟩;(conv=>whnf)
   refine C3 (enc:=λ r:List Rat=>[AV.sl false (r.map eQ)]) (λ_=>rfl) rfl wu.symm ?_;(conv=>whnf)
   exact AW rfl (aP _ _ _ _ 0)
  ·obtain rfl:=s2 rfl
   have ui:=nc;rw[hb]at ui;(repeat' (apply AE<;>conv=>whnf))
   refine C3 (enc:=λ r:List Rat=>[AV.sl false (r.map eQ)]) (λ_=>rfl) rfl wu.symm ?_;(conv=>whnf)
   (repeat' ((first|(apply BM;omega)|(apply FY;omega)|refine AD (ui _ _) ?_)<;>conv=>whnf))
   refine CK (λ j=>P+P-1-j) (λ(j:Nat)=>j<=P+P-1) (λ j=>[(54,.int .i64 j)]) (λ j=>[(4,4,.bx ([.row 1000 0 1 0 n]++eQ D++[.int .i64 (P:Int)]++eQ (D^j)))]) [] [] 0 (by rw[Rat.pow_zero];exact (by (conv=>whnf);exact ⟨rfl,rfl,rfl⟩)) (by omega) ?_;intro j t1 kh;by_cases hj:j<P+P-1
   ·have hl:=Fy j (by omega)
    (repeat' ((first|(apply AG<;>intro hc<;>try (exfalso;omega))|(apply AR;omega)|apply AE|refine AD (hl) ?_)<;>conv=>whnf))
    exact BO [] (kh (j+1) (by omega) (by omega))
   have ej:j=P+P-1:=by omega
   clear kh;rw[ej];(repeat' ((first|(apply AG<;>intro hc<;>try (exfalso;omega))|apply AE)<;>conv=>whnf))
   refine ⟨.g8 [.agg (HA false (B6 D a) D (P:Int) (D^(P+P-1))),.int .i64 0],?_,v5 _ rfl⟩;(conv=>whnf)
   refine C3 (enc:=λ r:List Rat=>[AV.sl false (r.map eQ)]) (λ_=>rfl) rfl wu.symm ?_;(conv=>whnf)
   exact AW rfl (aP _ _ _ _ 0)
end Go.b7
