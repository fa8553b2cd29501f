/-
  State-space forms (layer 27), the program: zeros, at, degree, Valid, Controller.
-/
import Derived.Test.YtfnglkabkfmjcaaGreatB10
import Derived.Test.YtfnglkabkfmjcaaGreatB11
import Derived.Test.YtfnglkabkfmjcaaGreatB9
import Derived.Test.YtfnglkabkfmjcaaGreatB4
import Derived.Test.YtfnglkabkfmjcaaGreatB1
import Derived.Test.YtfnglkabkfmjcaaGreatB5
import Derived.Test.YtfnglkabkfmjcaaGreatB7
set_option linter.unusedSimpArgs false
set_option linter.unusedVariables false
set_option linter.unnecessarySimpa false
namespace Go.c5
open F
attribute [local irreducible] AA AF AM AC CI AW AX A5 A6 B3 AQ BS B7 C5 BQ A2 BO B9 AB A9 AJ pw BN BG CH CM CT CP CE BU CK
variable {L:Lib}
set_option maxHeartbeats 16000000
theorem Adi (N:n9 L) (m:Nat) (hm:m<=65536):O3 L 206 [.int .i64 (m:Int)] 3 ((List.replicate m (0:Rat)).map eQ):=by
 have hO:=I7 N.toa8 0 (by omega);refine O3.x N.N5 rfl rfl ?_;(repeat' (apply AD<;>conv=>whnf))
 refine EX (enc:=eO) none m rfl rfl (by omega) ?_;(conv=>whnf)
 skip
 refine BR (λ i=>m-i) (λ(i:Nat)=>i<=m) (λ i=>[(8,.int .i64 i)]) (λ i=>[(6,6,.rw 3 ((EM (List.replicate i 0) m).map eO))]) [] [] 0 (by first|exact (by (conv=>whnf);exact ⟨rfl,rfl,rfl⟩)|(rw[<-QF];exact (by (conv=>whnf);exact ⟨rfl,rfl,rfl⟩))) (by omega) ?_;intro i p1 ih;by_cases hi:i<m
 ·have hl:=PJ (l:=List.replicate i (0:Rat)) (m:=m) (by simp;omega)
  have hs:=QG (l:=List.replicate i (0:Rat)) (m:=m) (x:=0) (by simp;omega);rw[List.length_replicate]at hs;(repeat' ((first|(apply AG<;>intro hc<;>try (exfalso;omega))|(apply AY;omega)|apply AD|refine AE (hO) ?_)<;>conv=>whnf))
  refine FW (enc:=eO) (some 0) rfl (λ e=>by cases e<;>rfl) (by omega) ?_;(conv=>whnf)
  (repeat' ((first|(apply AU;omega)|fail)<;>conv=>whnf))
  rw[hs];rw[show List.replicate i (0:Rat)++[0]=List.replicate (i+1) 0 by rw[List.replicate_succ']];exact BF [] (ih (i+1) (by omega) (by omega))
 obtain rfl:i=m:=by omega
 clear ih;rw[QE (by simp)];(repeat' ((first|(apply AG<;>intro hc<;>try (exfalso;omega))|apply AD)<;>conv=>whnf))
 exact ⟨rfl,rfl,by simp,rfl,JY _⟩
theorem cO (N:n9 L) (q:Bool) (l:List Rat) (i:Int) (k:Nat) (h0:0<=i) (hl:Bs k l) (hk:k<2199023255552) (hn:l.length<=1000000):Ev L 205 [.sl q (l.map eQ),.int .i64 i] (.agg (eQ (l.getD i.toNat 0))):=by
 have hO:=I7 N.toa8 0 (by omega);refine Ev.x N.N3 rfl rfl ?_;by_cases hi:i<l.length
 ·obtain ⟨x,hx⟩ : ∃ x,l[i.toNat]? = some x:=⟨_,zE (by omega)⟩
  have hT:=cP N.toa8 (hl.at hx) hk;rw[cY hx];(repeat' ((first|(apply AG<;>intro hc<;>try (exfalso;omega))|apply AR|(refine BC (by assumption) ?_ rfl ?_;omega)|apply AD|refine AE (hT) ?_)<;>conv=>whnf))
  exact AZ rfl (DH _)
 ·rw[Adx (l:=l) (by omega)]
  (repeat' ((first|(apply AG<;>intro hc<;>try (exfalso;omega))|apply AR|apply AD|refine AE (hO) ?_)<;>conv=>whnf))
  exact AZ rfl (DH _)
theorem nW (N:n9 L) (q:Bool) (l:List Rat) (k:Nat) (ht:O1 l=l) (hl:Bs k l) (hk:k<2199023255552) (hn:l.length<=1000000):Ev L 204 [.sl q (l.map eQ)] (.int .i64 ((l.length-1:Nat):Int)):=by
 refine Ev.x N.N4 rfl rfl ?_;(repeat' ((first|(apply B6;omega)|apply AR|apply AD)<;>conv=>whnf))
 refine F4 ?_;by_cases h2:l.length<=1
 ·(repeat' ((first|(apply AG<;>intro hc<;>try (exfalso;omega))|apply AD)<;>conv=>whnf))
  exact C2 (by omega)
 ·obtain ⟨x,hx⟩ : ∃ x,l[l.length-1]? = some x:=⟨_,zE (by omega)⟩
  have fm:l[((l.length:Int)-1).toNat]? = some x:=by rw[show ((l.length:Int)-1).toNat=l.length-1 by omega];exact hx
  have Qp:=AgV ht (by omega);rw[cY hx]at Qp;have hS:=VG N.toa8 (hl.at hx) hk;have hs:=QV (x:=x);generalize o8 x.num=s at *;have ck:s≠0:=λ h=>Qp (hs.1 h)
  (repeat' ((first|(apply AG<;>intro hc<;>try (exfalso;omega))|(refine BC (by assumption) ?_ rfl ?_;omega)|apply AD|refine AE (hS) ?_)<;>conv=>whnf))
  exact C2 (by omega)
theorem Adf (N:n9 L) (q1 q2:Bool) (B A:List Rat) (k:Nat) (hB:Bs k B) (hA:Bs k A) (hk:k<2199023255552) (lB:B.length<=49) (lA:A.length<=49) (h0:A[0]? = some 1):Ev L 201 [.agg [.sl q1 (B.map eQ),.sl q2 (A.map eQ)]] (.bool true):=by
 have c1:=UZ B B.length;have c2:=UZ A A.length;have qi:=nM N q1 B k hB hk (by omega);have qj:=nM N q2 A k hA hk (by omega);have hO:=I7 N.toa8 1 (by omega);have hC:=mZ N (Bt.one 1) (Bt.one 1) (by omega) (by omega);rw[ZN.2 rfl]at hC;have hAl:0<A.length:=(zS h0).1;have wi:A[(0:Int).toNat]? = some 1:=h0;generalize HN B B.length=d1 at *;generalize HN A A.length=d2 at *;refine Ev.x N.NW rfl rfl ?_;(repeat' ((first|(apply AG<;>intro hc<;>try (exfalso;omega))|apply AR|(refine BC (by assumption) ?_ rfl ?_;omega)|apply AD|refine AE (qi) ?_|refine AE (qj) ?_|refine AE (hO) ?_|refine AE (hC) ?_)<;>conv=>whnf))
 exact IZ rfl
theorem Se (B A:List Rat) (m:Nat):(FA B A (m+1)).a.take 1=[(List.range (m+1)).map λ k => -(A.getD (k+1) 0)]:=by
 simp [FA,List.range_succ_eq_map]
theorem Sf {B A:List Rat} {n i:Nat} (h1:1<=i) (hi:i<n):(FA B A n).a[i]? = some (FZ n ((i-1:Nat):Int)):=by
 simp only[FA,List.getElem?_map,List.getElem?_range hi,Option.map_some];rw[if_neg (by omega)]
theorem kY {B A:List Rat} {n i:Nat} (hi:i<n):(FA B A n).c[i]? = some (B.getD (i+1) 0-B.getD 0 0*A.getD (i+1) 0):=by
 simp only[FA,List.getElem?_map,List.getElem?_range hi,Option.map_some]
theorem Sh (B A:List Rat) (m:Nat):(FA B A (m+1)).c.take 1=[B.getD 1 0-B.getD 0 0*A.getD 1 0]:=by
 rw[List.take_add_one,kY (by omega)];rfl
theorem Sg (B A:List Rat) (n:Nat):(FA B A n).a.length=n:=by simp [FA]
theorem Si (B A:List Rat) (n:Nat):(FA B A n).c.length=n:=by simp [FA]
theorem IX {α:Type} {l:List α} {i:Nat} {x:α} (h:l[i]? = some x):l.take (i+1)=l.take i++[x]:=by
 rw[List.take_add_one,h];rfl
theorem Tn (S:HM) (e:Int):A4 (.g7 [.agg (eS S),.int .i64 e]):=by
 have:=UW S
 simp only[A4,CW,true_and,and_true]at this ⊢;exact this
theorem Yj (N:n9 L) (w1 w2:Bool) (B A:List Rat) (n k:Nat) (hB:O1 B=B) (hA:O1 A=A) (bB:Bs k B) (bA:Bs k A) (lB:B.length<=17) (lA:A.length<=17) (h0:A[0]? = some 1) (hn:max (B.length-1) (A.length-1)=n) (hk:k<=1000000) :
  Ev L 207 [.agg [.sl w1 (B.map eQ),.sl w2 (A.map eQ)]] (.g7 [.agg (eS (FA B A n)),.int .i64 0]):=by
 have hV:=Adf N w1 w2 B A k bB bA (by omega) (by omega) (by omega) h0;have qi:=nW N w1 B k hB bB (by omega) (by omega);have qj:=nW N w2 A k hA bA (by omega) (by omega);have hO:=I7 N.toa8 1 (by omega);have vd:=cO N w1 B 0 k (by omega) bB (by omega) (by omega);rw[show B.getD (0:Int).toNat 0=B.getD 0 0 from rfl]at vd;have hZ:=Adi N n (by omega);have Nq:Bt k (B.getD 0 0):=VQ bB 0;have Cj : ∀ i:Nat,Ev L 205 [.sl w1 (B.map eQ),.int .i64 ((i:Int)+1)] (.agg (eQ (B.getD (i+1) 0)))/\Ev L 205 [.sl w2 (A.map eQ),.int .i64 ((i:Int)+1)] (.agg (eQ (A.getD (i+1) 0))) /\
   Ev L 99 [.agg (eQ (B.getD 0 0)),.agg (eQ (A.getD (i+1) 0))] (.agg (eQ (B.getD 0 0*A.getD (i+1) 0)))/\Ev L 150 [.agg (eQ (B.getD (i+1) 0)),.agg (eQ (B.getD 0 0*A.getD (i+1) 0))] (.agg (eQ (B.getD (i+1) 0-B.getD 0 0*A.getD (i+1) 0))) /\
   Ev L 199 [.agg (eQ (A.getD (i+1) 0))] (.agg (eQ (-(A.getD (i+1) 0)))):=λ i=>by
  have e1:=cO N w1 B ((i:Int)+1) k (by omega) bB (by omega) (by omega);have e2:=cO N w2 A ((i:Int)+1) k (by omega) bA (by omega) (by omega);rw[show ((i:Int)+1).toNat=i+1 by omega]at e1 e2;exact ⟨e1,e2,GY N.toa8 Nq (VQ bA _) (by omega) (by omega),YJ N.tov5 (VQ bB _) (Nq.mul (VQ bA _)) (by omega) (by omega),nK N (VQ bA _) (by omega)⟩
 have hd:(FA B A n).d=B.getD 0 0:=rfl;have z0:=Sg B A n;have m8:=Si B A n;have oo:eS (FA B A n)=[.sl false ((FA B A n).a.map λ r=>[AV.sl false (r.map eQ)]),.sl false ((FZ n 0).map eQ),.sl false ((FA B A n).c.map eQ)]++eQ (B.getD 0 0):=rfl;have u9:=Tn (FA B A n) 0;rw[oo]at u9 ⊢;have Ox : ∀ i,1<=i->i<n->(FA B A n).a[i]? = some (FZ n ((i-1:Nat):Int)):=λ i h1 h2=>Sf h1 h2
 have Ed : ∀ i,i<n->(FA B A n).c[i]? = some (B.getD (i+1) 0-B.getD 0 0*A.getD (i+1) 0):=λ i h=>kY h
 have He:0<n->(FA B A n).a.take 1=[(List.range n).map λ k => -(A.getD (k+1) 0)]:=λ h=>by
  obtain ⟨m,rfl⟩ : ∃ m,n=m+1:=⟨n-1,by omega⟩;exact Se B A m
 have Ec:0<n->(FA B A n).c.take 1=[B.getD (0+1) 0-B.getD 0 0*A.getD (0+1) 0]:=λ h=>by
  obtain ⟨m,rfl⟩ : ∃ m,n=m+1:=⟨n-1,by omega⟩;exact Sh B A m
 have o5 : ∀ j,j<n->((List.range n).map λ k => -(A.getD (k+1) 0))[j]? = some (-(A.getD (j+1) 0)):=λ j h=>by
  rw[List.getElem?_map,List.getElem?_range h];rfl
 have Fp:((List.range n).map λ k => -(A.getD (k+1) 0)).length=n:=by simp
 have ig : ∀ j,(FZ n j).length=n:=λ j=>iF n j
 generalize (FA B A n).a=a at *;generalize (FA B A n).c=c at *;generalize (List.range n).map (λ k => -(A.getD (k+1) 0))=r0 at *;generalize B.getD 0 0=b0 at *;rcases Nat.lt_or_ge (B.length-1) (A.length-1) with k7|jq
 ·rw[show A.length-1=n by omega]at qj k7
  refine Ev.x N.JK rfl rfl ?_;(repeat' ((first|(apply AG<;>intro hc<;>try (exfalso;omega))|apply AD|refine AE (hV) ?_|refine AE (qi) ?_|refine AE (qj) ?_|refine AE (vd) ?_)<;>conv=>whnf))
  refine OC (enc:=eQ) n hZ (by simp) ?_;(conv=>whnf)
  by_cases ru:n=0
  ·skip
   exact absurd k7 (by omega)
  ·(repeat' ((first|(apply AG<;>intro hc<;>try (exfalso;omega))|(apply AY;omega)|refine AE (hO) ?_)<;>conv=>whnf))
   refine SU (enc:=eQ) 0 1 rfl rfl (λ_=>rfl) (by simp;omega) ?_;(conv=>whnf)
   rw[show (List.replicate n (0:Rat)).set 0 1=FZ n 0 from Z1 n 0];skip
   refine F4 ?_;(repeat' ((first|(apply AG<;>intro hc<;>try (exfalso;omega))|apply AD)<;>conv=>whnf))
   refine OC (enc:=eQ) n hZ (by simp) ?_;(conv=>whnf)
   (repeat' ((first|(apply AG<;>intro hc<;>try (exfalso;omega))|fail)<;>conv=>whnf))
   refine BR (λ j=>n-j) (λ(j:Nat)=>j<=n) (λ j=>[(50,.int .i64 j)]) (λ j=>[(41,41,.rw 3 ((cz r0 n j).map eQ))]) [] [] 0 (by first|exact (by (conv=>whnf);exact ⟨rfl,rfl,rfl⟩)|(rw[lH];exact (by (conv=>whnf);exact ⟨rfl,rfl,rfl⟩))) (by omega) ?_;intro j p1 ih;have tl:=lF (row:=r0) p1;by_cases hj:j<n
   ·have j6:=lG (o5 j hj) hj
    obtain ⟨f1,f2,f3,f4,f5⟩:=Cj j;(repeat' ((first|(apply AG<;>intro hc<;>try (exfalso;omega))|(apply AY;omega)|(apply AU;omega)|apply AD|refine AE (f2) ?_|refine AE (f5) ?_)<;>conv=>whnf))
    refine FW (enc:=eQ) (-(A.getD (j+1) 0)) rfl (λ_=>rfl) (by omega) ?_;(conv=>whnf)
    (repeat' ((first|(apply AU;omega)|fail)<;>conv=>whnf))
    rw[j6];exact BF [] (ih (j+1) (by omega) (by omega))
   obtain rfl:j=n:=by omega
   clear ih;rw[lE Fp];obtain ⟨f1,f2,f3,f4,f5⟩:=Cj 0;(repeat' ((first|(apply AG<;>intro hc<;>try (exfalso;omega))|apply AD)<;>conv=>whnf))
   refine AY ⟨by rw[List.length_map];omega,by omega⟩ ?_;(conv=>whnf)
   (repeat' ((first|(apply AU;omega)|apply D9|refine AE (vd) ?_|refine AE (f1) ?_|refine AE (f2) ?_|refine AE (f3) ?_|refine AE (f4) ?_)<;>conv=>whnf))
   refine UF (enc:=eQ) (B.getD (0+1) 0-b0*A.getD (0+1) 0) rfl rfl (by omega) ?_;(conv=>whnf)
   (repeat' ((first|(apply AU;omega)|fail)<;>conv=>whnf))
   refine BR (λ i=>j-i) (λ(i:Nat)=>1<=i/\i<=j) (λ i=>[(37,.int .i64 i)]) (λ i=>[(5,5,.bx ([.row 67 0 1 0 i,.row 28 0 3 0 j,.row 88 0 3 0 i]++eQ b0)),(67,67,.mx (BJ 3 eQ (a.take i))),(88,88,.rw 3 ((c.take i).map eQ))]) [] [] 1 (by first|exact (by (conv=>whnf);exact ⟨rfl,rfl,rfl⟩)|(rw[He (by omega),Ec (by omega)];exact (by (conv=>whnf);exact ⟨rfl,rfl,rfl⟩))) (by omega) ?_;intro i ⟨g1,g2⟩ ih;have Ar:(a.take i).length=i:=by rw[List.length_take];omega
   have Aw:(c.take i).length=i:=by rw[List.length_take];omega
   by_cases hi:i<j
   ·obtain ⟨f1,f2,f3,f4,f5⟩:=Cj i
    have Me:=IX (Ox i g1 hi);have Mf:=IX (Ed i hi);have As:(a.take (i+1)).length=i+1:=by rw[List.length_take];omega
    have Ax:(c.take (i+1)).length=i+1:=by rw[List.length_take];omega
    have Mr:=ig ((i-1:Nat):Int);(repeat' ((first|(apply AG<;>intro hc<;>try (exfalso;omega))|apply AD)<;>conv=>whnf))
    refine OC (enc:=eQ) j hZ (by simp) ?_;(conv=>whnf)
    (repeat' ((first|(apply AG<;>intro hc<;>try (exfalso;omega))|(apply AY;omega)|(apply B6;omega)|refine AE (hO) ?_)<;>conv=>whnf))
    refine SU (enc:=eQ) (i-1) 1 (by omega) rfl (λ_=>rfl) (by simp;omega) ?_;(conv=>whnf)
    rw[Z1];skip
    refine AY (by rw[List.length_map];omega) ?_;refine SI (r:=FZ j ((i-1:Nat):Int)) (en:=eQ) Ar.symm (by omega) (by omega) ?_;rw[<-Me,As];(conv=>whnf)
    (repeat' ((first|(apply AU;omega)|apply D9|refine AE (vd) ?_|refine AE (f1) ?_|refine AE (f2) ?_|refine AE (f3) ?_|refine AE (f4) ?_)<;>conv=>whnf))
    refine EO (enc:=eQ) (B.getD (i+1) 0-b0*A.getD (i+1) 0) rfl Aw.symm rfl (by omega) (by omega) ?_;rw[<-Mf,Ax];(conv=>whnf)
    (repeat' ((first|(apply AU;omega)|fail)<;>conv=>whnf))
    exact BF [(67,1000067),(88,1000088)] (ih (i+1) (by omega) (by omega))
   obtain rfl:i=j:=by omega
   clear ih;rw[List.take_of_length_le (Nat.le_of_eq z0),List.take_of_length_le (Nat.le_of_eq m8)]at *;(repeat' ((first|(apply AG<;>intro hc<;>try (exfalso;omega))|apply AD)<;>conv=>whnf))
   refine I2 (λ_=>rfl) rfl z0.symm ?_;(conv=>whnf)
   refine DL (enc:=eQ) (λ_=>rfl) rfl (ig 0).symm ?_;(conv=>whnf)
   refine DL (enc:=eQ) (λ_=>rfl) rfl m8.symm ?_;(conv=>whnf)
   exact AZ rfl u9
 ·rw[show B.length-1=n by omega]at qi jq
  refine Ev.x N.JK rfl rfl ?_;(repeat' ((first|(apply AG<;>intro hc<;>try (exfalso;omega))|apply AD|refine AE (hV) ?_|refine AE (qi) ?_|refine AE (qj) ?_|refine AE (vd) ?_)<;>conv=>whnf))
  refine OC (enc:=eQ) n hZ (by simp) ?_;(conv=>whnf)
  by_cases ru:n=0
  ·skip
   subst ru;(repeat' ((first|(apply AG<;>intro hc<;>try (exfalso;omega))|fail)<;>conv=>whnf))
   refine F4 ?_;(repeat' ((first|(apply AG<;>intro hc<;>try (exfalso;omega))|(refine DL (λ_=>rfl) rfl ?_ ?_;(first|rfl|simp))|apply AD)<;>conv=>whnf))
   rw[List.eq_nil_of_length_eq_zero z0,List.eq_nil_of_length_eq_zero m8]at *;exact AZ rfl u9
  ·(repeat' ((first|(apply AG<;>intro hc<;>try (exfalso;omega))|(apply AY;omega)|refine AE (hO) ?_)<;>conv=>whnf))
   refine SU (enc:=eQ) 0 1 rfl rfl (λ_=>rfl) (by simp;omega) ?_;(conv=>whnf)
   rw[show (List.replicate n (0:Rat)).set 0 1=FZ n 0 from Z1 n 0];skip
   refine F4 ?_;(repeat' ((first|(apply AG<;>intro hc<;>try (exfalso;omega))|apply AD)<;>conv=>whnf))
   refine OC (enc:=eQ) n hZ (by simp) ?_;(conv=>whnf)
   (repeat' ((first|(apply AG<;>intro hc<;>try (exfalso;omega))|fail)<;>conv=>whnf))
   refine BR (λ j=>n-j) (λ(j:Nat)=>j<=n) (λ j=>[(50,.int .i64 j)]) (λ j=>[(41,41,.rw 3 ((cz r0 n j).map eQ))]) [] [] 0 (by first|exact (by (conv=>whnf);exact ⟨rfl,rfl,rfl⟩)|(rw[lH];exact (by (conv=>whnf);exact ⟨rfl,rfl,rfl⟩))) (by omega) ?_;intro j p1 ih;have tl:=lF (row:=r0) p1;by_cases hj:j<n
   ·have j6:=lG (o5 j hj) hj
    obtain ⟨f1,f2,f3,f4,f5⟩:=Cj j;(repeat' ((first|(apply AG<;>intro hc<;>try (exfalso;omega))|(apply AY;omega)|(apply AU;omega)|apply AD|refine AE (f2) ?_|refine AE (f5) ?_)<;>conv=>whnf))
    refine FW (enc:=eQ) (-(A.getD (j+1) 0)) rfl (λ_=>rfl) (by omega) ?_;(conv=>whnf)
    (repeat' ((first|(apply AU;omega)|fail)<;>conv=>whnf))
    rw[j6];exact BF [] (ih (j+1) (by omega) (by omega))
   obtain rfl:j=n:=by omega
   clear ih;rw[lE Fp];obtain ⟨f1,f2,f3,f4,f5⟩:=Cj 0;(repeat' ((first|(apply AG<;>intro hc<;>try (exfalso;omega))|apply AD)<;>conv=>whnf))
   refine AY ⟨by rw[List.length_map];omega,by omega⟩ ?_;(conv=>whnf)
   (repeat' ((first|(apply AU;omega)|apply D9|refine AE (vd) ?_|refine AE (f1) ?_|refine AE (f2) ?_|refine AE (f3) ?_|refine AE (f4) ?_)<;>conv=>whnf))
   refine UF (enc:=eQ) (B.getD (0+1) 0-b0*A.getD (0+1) 0) rfl rfl (by omega) ?_;(conv=>whnf)
   (repeat' ((first|(apply AU;omega)|fail)<;>conv=>whnf))
   refine BR (λ i=>j-i) (λ(i:Nat)=>1<=i/\i<=j) (λ i=>[(37,.int .i64 i)]) (λ i=>[(5,5,.bx ([.row 67 0 1 0 i,.row 28 0 3 0 j,.row 88 0 3 0 i]++eQ b0)),(67,67,.mx (BJ 3 eQ (a.take i))),(88,88,.rw 3 ((c.take i).map eQ))]) [] [] 1 (by first|exact (by (conv=>whnf);exact ⟨rfl,rfl,rfl⟩)|(rw[He (by omega),Ec (by omega)];exact (by (conv=>whnf);exact ⟨rfl,rfl,rfl⟩))) (by omega) ?_;intro i ⟨g1,g2⟩ ih;have Ar:(a.take i).length=i:=by rw[List.length_take];omega
   have Aw:(c.take i).length=i:=by rw[List.length_take];omega
   by_cases hi:i<j
   ·obtain ⟨f1,f2,f3,f4,f5⟩:=Cj i
    have Me:=IX (Ox i g1 hi);have Mf:=IX (Ed i hi);have As:(a.take (i+1)).length=i+1:=by rw[List.length_take];omega
    have Ax:(c.take (i+1)).length=i+1:=by rw[List.length_take];omega
    have Mr:=ig ((i-1:Nat):Int);(repeat' ((first|(apply AG<;>intro hc<;>try (exfalso;omega))|apply AD)<;>conv=>whnf))
    refine OC (enc:=eQ) j hZ (by simp) ?_;(conv=>whnf)
    (repeat' ((first|(apply AG<;>intro hc<;>try (exfalso;omega))|(apply AY;omega)|(apply B6;omega)|refine AE (hO) ?_)<;>conv=>whnf))
    refine SU (enc:=eQ) (i-1) 1 (by omega) rfl (λ_=>rfl) (by simp;omega) ?_;(conv=>whnf)
    rw[Z1];skip
    refine AY (by rw[List.length_map];omega) ?_;refine SI (r:=FZ j ((i-1:Nat):Int)) (en:=eQ) Ar.symm (by omega) (by omega) ?_;rw[<-Me,As];(conv=>whnf)
    (repeat' ((first|(apply AU;omega)|apply D9|refine AE (vd) ?_|refine AE (f1) ?_|refine AE (f2) ?_|refine AE (f3) ?_|refine AE (f4) ?_)<;>conv=>whnf))
    refine EO (enc:=eQ) (B.getD (i+1) 0-b0*A.getD (i+1) 0) rfl Aw.symm rfl (by omega) (by omega) ?_;rw[<-Mf,Ax];(conv=>whnf)
    (repeat' ((first|(apply AU;omega)|fail)<;>conv=>whnf))
    exact BF [(67,1000067),(88,1000088)] (ih (i+1) (by omega) (by omega))
   obtain rfl:i=j:=by omega
   clear ih;rw[List.take_of_length_le (Nat.le_of_eq z0),List.take_of_length_le (Nat.le_of_eq m8)]at *;(repeat' ((first|(apply AG<;>intro hc<;>try (exfalso;omega))|apply AD)<;>conv=>whnf))
   refine I2 (λ_=>rfl) rfl z0.symm ?_;(conv=>whnf)
   refine DL (enc:=eQ) (λ_=>rfl) rfl (ig 0).symm ?_;(conv=>whnf)
   refine DL (enc:=eQ) (λ_=>rfl) rfl m8.symm ?_;(conv=>whnf)
   exact AZ rfl u9
theorem kT {a:List (List Rat)} {i j:Nat} {r:List Rat} {x:Rat} (hr:a[j]? = some r) (hx:r[i]? = some x):(DD a i)[j]? = some x:=by
 simp only[DD,List.getElem?_map,hr,Option.map_some,cY hx]
theorem aC {R:List (Option (Nat × List (List AV)))} {e:Nat} {r:Option (Nat × List (List AV))} {K:Option (Nat × List (List AV))->Prop} (h:R[e]? = some r) (hk:K r):BN R e K:=by
 unfold BN;exact ⟨r,h,hk⟩
def TZ (v:Int):Rat:=Rat.divInt (v%25-12) (1+v/25%8)
def FP (l:List Int) (n:Nat):List Rat:=(List.range n).map λ i:Nat=>TZ (F2 (G8 l (i:Int)) 2000)
theorem ZD (l:List Int) (n:Nat):(FP l n).length=n:=by simp [FP]
theorem AfN (l:List Int) (n:Nat):FP l (n+1)=FP l n++[TZ (F2 (G8 l (n:Int)) 2000)]:=by simp [FP,List.range_succ]
theorem AfM {v:Int} (h:0<=v):Bt 4 (TZ v):=by
 unfold TZ;obtain ⟨d,hd⟩:=Int.eq_ofNat_of_zero_le (show 0<=1+v/25%8 by omega);rw[hd,Rat.divInt_ofNat];refine Bt.mk ?_ ?_
 ·show _<=16;omega
 ·show _<=16;omega
theorem sB (l:List Int) (n:Nat):Bs 4 (FP l n):=by
 intro x hx;simp only[FP,List.mem_map]at hx;obtain ⟨i,_,rfl⟩:=hx;refine AfM ?_;unfold F2;split<;>omega
def ZK (X:List Rat) (n j:Nat):List Rat:=(X.take (j*n+n)).drop (j*n)
def WG (X:List Rat) (n i:Nat):List (List Rat):=(List.range i).map (ZK X n)
def KC (l:List Int) (n:Nat):HM :=
 let X:=FP l (n*n+2*n+1)
 ⟨WG X n n,(X.take (n*n+n)).drop (n*n),(X.take (n*n+2*n)).drop (n*n+n),X.getD (n*n+2*n) 0⟩
end Go.c5


namespace Go.c5
open F
attribute [local irreducible] AA AF AM AC CI AW AX A5 A6 B3 AQ BS B7 C5 BQ A2 BO B9 AB A9 AJ pw BN BG CH CM CT CP CE BU CK
variable {L:Lib}
set_option maxHeartbeats 8000000
theorem AfY {X:List Rat} {n j:Nat} (h:j*n+n<=X.length):(ZK X n j).length=n:=by
 simp only[ZK,List.length_drop,List.length_take];omega
theorem AgO (l:List Int) (n:Nat):(KC l n).Ok n 4:=by
 have hX:=ZD l (n*n+2*n+1);have hb:=sB l (n*n+2*n+1);have mem : ∀ (i j:Nat) (x:Rat),x∈((FP l (n*n+2*n+1)).take j).drop i->Bt 4 x:=λ i j x hx=>hb x (List.mem_of_mem_take (List.mem_of_mem_drop hx))
 have hr : ∀ r∈WG (FP l (n*n+2*n+1)) n n,∃ j,j<n/\r=ZK (FP l (n*n+2*n+1)) n j:=λ r hr=>by
  simp only[WG,List.mem_map,List.mem_range]at hr;obtain ⟨j,h1,rfl⟩:=hr;exact ⟨j,h1,rfl⟩
 refine ⟨by simp [KC,WG],?_,?_,?_,?_,λ x hx=>mem _ _ x hx,λ x hx=>mem _ _ x hx,?_⟩
 ·intro r h
  obtain ⟨j,h1,rfl⟩:=hr r h;refine AfY ?_;have:=Nat.mul_le_mul_right n (show j+1<=n by omega)
  rw[Nat.succ_mul]at this;omega
 ·simp only[KC,List.length_drop,List.length_take];omega
 ·simp only[KC,List.length_drop,List.length_take];omega
 ·intro r h x hx
  obtain ⟨j,h1,rfl⟩:=hr r h;exact mem _ _ x hx
 ·show Bt 4 ((FP l (n*n+2*n+1)).getD (n*n+2*n) 0)
  rw[List.getD_eq_getElem?_getD];cases e:(FP l (n*n+2*n+1))[n*n+2*n]? with
  | none=>exact Bt.zero 4
  | some x=>exact hb.at e
end Go.c5



namespace Go.c5
open F
attribute [local irreducible] AA AF AM AC CI AW AX A5 A6 B3 AQ BS B7 C5 BQ A2 BO B9 AB A9 AJ pw BN BG CH CM CT CP CE BU CK
variable {L:Lib}
set_option maxHeartbeats 8000000
set_option maxRecDepth 8000
end Go.c5

namespace Go.c5
set_option maxHeartbeats 4000000
theorem eG (x:Rat):x.num<0↔x<0:=by rw[<-Int.not_le,Rat.num_nonneg,Rat.not_le]
theorem XP (x:Rat):FN x=if x<0 then -x else x:=by
 unfold FN;by_cases h:x<0
 ·rw[if_pos h,if_pos ((eG x).2 h)]
 ·rw[if_neg h,if_neg (λ e=>h ((eG x).1 e))]
theorem zD (x y:Rat):FN (x*y)=FN x*FN y:=by
 have pp : ∀ a b:Rat,0<=a->0<=b->0<=a*b:=λ a b=>Rat.mul_nonneg
 rw[XP,XP,XP];by_cases hx:x<0
 ·by_cases hy:y<0
  ·have h:=pp (-x) (-y) (by grind) (by grind)
   rw[if_pos hx,if_pos hy,if_neg (by rw[Rat.not_lt];grind)];grind
  ·have h:=pp (-x) y (by grind) (by grind)
   rw[if_pos hx,if_neg hy];by_cases h0:x*y<0
   ·rw[if_pos h0];grind
   ·rw[if_neg h0];grind
 ·by_cases hy:y<0
  ·have h:=pp x (-y) (by grind) (by grind)
   rw[if_neg hx,if_pos hy];by_cases h0:x*y<0
   ·rw[if_pos h0];grind
   ·rw[if_neg h0];grind
  ·have h:=pp x y (by grind) (by grind)
   rw[if_neg hx,if_neg hy,if_neg (by grind)]
theorem zF {x:Rat} (h:0<=x):FN x=x:=by
 rw[XP,if_neg (by grind)]
def B4:List Rat->Rat
 | []=>0
 | x::l=>FN x+B4 l
theorem tH (x:Rat) : ∀ l,B4 (l++[x])=B4 l+FN x
 | []=>by simp only[List.nil_append,B4];grind
 | y::l=>by
  simp only[List.cons_append,B4,tH x l];grind
theorem gI {c:Rat} (hc:0<=c) : ∀ l,B4 (l.map (· * c))=B4 l*c
 | []=>by simp only[List.map_nil,B4];grind
 | x::l=>by
  simp only[List.map_cons,B4,gI hc l,zD,zF hc];grind
def D4 (a:List (List Rat)):Bool:=a.all λ r=>decide (B4 r<=1/2)
def CF (n:Nat) (a:List (List Rat)):Nat->List (List Rat)
 | 0=>a
 | k+1=>F9 (CF n a k) (CF n a k) n
theorem QX {n:Nat} {a:List (List Rat)} (h:Sq n a) : ∀ k,Sq n (CF n a k)
 | 0=>h
 | k+1=>Sq.mul (QX h k).l _
def C0 (c:Rat) (a:List (List Rat)):List (List Rat):=a.map λ r=>r.map (· * c)
theorem gJ (c:Rat) (a:List (List Rat)):(C0 c a).length=a.length:=by simp [C0]
theorem gK {n:Nat} (c:Rat) {a:List (List Rat)} (h : ∀ r∈a,r.length=n) : ∀ r∈C0 c a,r.length=n:=λ r hr=>by
 obtain ⟨s,hs,rfl⟩:=List.mem_map.1 hr;rw[List.length_map];exact h s hs
theorem Agp {n:Nat} (c:Rat) {a:List (List Rat)} (h:Sq n a):Sq n (C0 c a):=⟨by rw[gJ,h.l],gK c h.r⟩
theorem Ago {c:Rat} {a:List (List Rat)} {i:Nat} {r:List Rat} (h:a[i]? = some r):(C0 c a)[i]? = some (r.map (· * c)):=by rw[C0,List.getElem?_map,h];rfl
theorem Zo (r:List Rat) (c:Rat) (j:Nat):(r.map (· * c)).getD j 0=r.getD j 0*c:=by
 rw[List.getD_eq_getElem?_getD,List.getD_eq_getElem?_getD,List.getElem?_map];cases r[j]? with
 | none=>simp [Rat.zero_mul]
 | some x=>rfl
theorem Tx (c:Rat) (a:List (List Rat)) (j:Nat):DD (C0 c a) j=(DD a j).map (· * c):=by
 rw[DD,DD,C0,List.map_map,List.map_map];exact List.map_congr_left λ r _=>Zo r c j
theorem Ve (c d:Rat) (u v:List Rat):A3 (u.map (· * c)) (v.map (· * d))=A3 u v*(c*d):=by
 rw[TA,KO,TA,KO];grind
theorem Afc (c d:Rat) (a b:List (List Rat)) (n:Nat):F9 (C0 c a) (C0 d b) n=C0 (c*d) (F9 a b n):=by
 show (a.map λ r=>r.map (· * c)).map (λ r=>FB r (C0 d b) n)=(a.map λ r=>FB r b n).map (λ r=>r.map (· * (c*d)));rw[List.map_map,List.map_map];refine List.map_congr_left λ r _ => ?_
 show FB (r.map (· * c)) (C0 d b) n=(FB r b n).map (· * (c*d));rw[FB,FB,List.map_map];refine List.map_congr_left λ j _ => ?_
 show A3 (r.map (· * c)) (DD (C0 d b) j)=A3 r (DD b j)*(c*d);rw[Tx,Ve]
def D6 (D:Rat):Nat->Rat
 | 0=>D
 | i+1=>D6 D i*D6 D i
theorem bV {D:Rat} (h:0<D) : ∀ i,0<D6 D i
 | 0=>h
 | i+1=>Rat.mul_pos (bV h i) (bV h i)
theorem tX (n:Nat) (a:List (List Rat)) (D:Rat) (i:Nat):F9 (C0 (D6 D i) (CF n a i)) (C0 (D6 D i) (CF n a i)) n=C0 (D6 D (i+1)) (CF n a (i+1)):=Afc _ _ _ _ _
theorem oX {s D:Rat} (hD:0<D):s*D+s*D<=D↔s<=1/2:=by
 have e:s*D+s*D=(s+s)*D:=by grind
 have h1:(s+s)*D<=1*D↔s+s<=1:=⟨λ h=>Rat.le_of_mul_le_mul_right h hD,λ h=>Rat.mul_le_mul_of_nonneg_right h (by grind)⟩;rw[Rat.one_mul]at h1;rw[e,h1];constructor<;>intro h<;>grind
theorem Ag6 {k:Nat} {x:Rat} (hx:Bt k x) {S:Nat} {z:Int} (hz:x*(S:Rat)=(z:Rat)) {M:Nat} (hS:S<=2^M):Wh (k+M) (x*(S:Rat)):=by
 refine ⟨z,hz,?_⟩;have h1:=QO x;have h2:((z*(x.den:Int):Int):Rat)=((x.num*(S:Int):Int):Rat):=by
  rw[Rat.intCast_mul,Rat.intCast_mul,<-h1,<-hz,Rat.intCast_natCast,Rat.intCast_natCast];grind
 have h3:=congrArg Int.natAbs (Rat.intCast_inj.1 h2);rw[Int.natAbs_mul,Int.natAbs_mul,Int.natAbs_natCast,Int.natAbs_natCast]at h3;have h4:z.natAbs<=z.natAbs*x.den:=Nat.le_mul_of_pos_right _ x.den_pos;rw[Nat.pow_add];exact Nat.le_trans h4 (by rw[h3];exact Nat.mul_le_mul hx.1 hS)
theorem Agd (S:Nat) (x:Rat):((S:Rat)*x).den ∣ x.den:=by
 refine X9 (z:=S*x.num) ?_;have h:=QO x;rw[Rat.intCast_mul,<-h,Rat.intCast_natCast];grind
theorem sY {k:Nat} : ∀ (l:List Rat) (S:Nat),0<S->Bs k l -> ∃ S':Nat,l.foldl OY (S:Rat)=(S':Rat)/\0<S'/\S'<=S*2^(l.length*k)/\S ∣ S' /\ ∀ x∈l,∃ z:Int,x*(S':Rat)=(z:Rat)
 | [],S,h,_=>⟨S,rfl,h,by simp,Nat.dvd_refl S,λ x hx=>by cases hx⟩
 | x::l,S,h,hb=>by
  have h1:=Agd S x;have hx:=hb x List.mem_cons_self;have h2:((S:Rat)*x)*((((S:Rat)*x).den:Nat):Rat)=(((S:Rat)*x).num:Rat):=QO _;have h3:=Nat.le_of_dvd x.den_pos h1;have h4:=((S:Rat)*x).den_pos;generalize ((S:Rat)*x).num=u at h2;obtain ⟨S',e,p1,p2,p3,p4⟩:=sY l (S*((S:Rat)*x).den) (Nat.mul_pos h h4) λ y hy=>hb y (List.mem_cons_of_mem _ hy)
  refine ⟨S',by rw[List.foldl_cons,<-e,OY,Rat.natCast_mul],p1,?_,Nat.dvd_trans (Nat.dvd_mul_right _ _) p3,λ y hy => ?_⟩
  ·have h5:S*((S:Rat)*x).den<=S*2^k:=Nat.mul_le_mul_left S (Nat.le_trans h3 hx.2)
   have h6:=Nat.mul_le_mul_right (2^(l.length*k)) h5;rw[List.length_cons,Nat.succ_mul,Nat.pow_add,Nat.mul_comm (2^(l.length*k)),<-Nat.mul_assoc];exact Nat.le_trans p2 h6
  ·rcases List.mem_cons.1 hy with rfl|hy
   ·obtain ⟨t,rfl⟩:=p3
    refine ⟨u*(t:Int),?_⟩;rw[Rat.natCast_mul,Rat.natCast_mul,Rat.intCast_mul,<-h2,Rat.intCast_natCast];grind
   ·exact p4 y hy
theorem sZ {k:Nat} {l:List Rat} (hb:Bs k l) : ∃ S:Nat,C1 l=(S:Rat)/\0<S/\S<=2^(l.length*k) /\ ∀ x∈l,∃ z:Int,x*(S:Rat)=(z:Rat):=by
 obtain ⟨S,e,h1,h2,_,h3⟩:=sY l 1 (by omega) hb;exact ⟨S,e,h1,by rwa [Nat.one_mul]at h2,h3⟩
theorem Tb (S:Nat) (x:Rat):((S:Rat)/(x.den:Rat)).den=((S:Rat)*x).den:=by
 have wy:(x.den:Rat)≠0:=λ e=>by
  have:((x.den:Nat):Rat)=((0:Nat):Rat):=e
  have:=Rat.natCast_inj.1 this
  have:=x.den_pos
  omega
 have hx:=QO x;refine Nat.dvd_antisymm ?_ ?_
 ·-- e=(S x).den: e S num/d whole,so d ∣ e S
  have h1:=QO ((S:Rat)*x);generalize hE:((S:Rat)*x).den=E at *;generalize ((S:Rat)*x).num=u at h1;have h2:(((E*S:Nat):Int)*x.num:Int)=u*(x.den:Int):=by
   refine Rat.intCast_inj.1 ?_;rw[Rat.intCast_mul,Rat.intCast_mul,<-hx,<-h1,Rat.intCast_natCast,Rat.intCast_natCast,Rat.natCast_mul];grind
  have h3:x.den ∣ E*S*x.num.natAbs:=by
   have h4:(x.den:Int) ∣ ((E*S:Nat):Int)*x.num:=⟨u,by rw[h2,Int.mul_comm]⟩;have:=Int.natAbs_dvd_natAbs.2 h4
   rw[Int.natAbs_mul,Int.natAbs_natCast,Int.natAbs_natCast]at this;exact this
  obtain ⟨t,ht⟩:=Nat.Coprime.dvd_of_dvd_mul_right (Nat.Coprime.symm x.reduced) h3;refine X9 (z:=t) ?_;have h5:((E*S:Nat):Rat)=((x.den*t:Nat):Rat):=congrArg _ ht;rw[Rat.natCast_mul,Rat.natCast_mul]at h5;rw[Rat.div_def,<-Rat.mul_assoc,h5,Rat.intCast_natCast];have:=Rat.mul_inv_cancel _ wy
  grind
 ·have h1:=QO ((S:Rat)/(x.den:Rat))
  generalize ((S:Rat)/(x.den:Rat)).num=u at h1;generalize ((S:Rat)/(x.den:Rat)).den=E at *;refine X9 (z:=u*x.num) ?_;rw[Rat.intCast_mul,<-h1,<-hx,Rat.div_def];have:=Rat.mul_inv_cancel _ wy
  grind
theorem Uh {a:List (List Rat)}:D4 a=true ↔ ∀ r∈a,B4 r<=1/2:=by
 rw[D4,List.all_eq_true];exact ⟨λ h r hr=>by simpa using h r hr,λ h r hr=>by simpa using h r hr⟩
theorem Agq {n k:Nat} {a:List (List Rat)} (hs:Sq n a) (hb:Ms k a) : ∃ S:Nat,C1 a.flatten=(S:Rat)/\0<S/\S<=2^(n*n*k) /\ ∀ r∈C0 (S:Rat) a,∀ x∈r,Wh (k+n*n*k) x:=by
 have hl:a.flatten.length=n*n:=by
  have : ∀ (a:List (List Rat)),(∀ r∈a,r.length=n)->a.flatten.length=a.length*n:=by
   intro a;induction a with
   | nil=>intro _;simp
   | cons r a ih =>
    intro h;rw[List.flatten_cons,List.length_append,ih λ x hx=>h x (List.mem_cons_of_mem _ hx),h r List.mem_cons_self,List.length_cons,Nat.succ_mul,Nat.add_comm]
  rw[this a hs.r,hs.l]
 have hbf:Bs k a.flatten:=λ x hx=>by
  obtain ⟨r,hr,hx⟩:=List.mem_flatten.1 hx;exact hb r hr x hx
 obtain ⟨S,e,h1,h2,h3⟩:=sZ hbf;rw[hl]at h2;refine ⟨S,e,h1,h2,λ r hr x hx => ?_⟩;obtain ⟨s,hs,rfl⟩:=List.mem_map.1 hr;obtain ⟨y,hy,rfl⟩:=List.mem_map.1 hx;obtain ⟨z,hz⟩:=h3 y (List.mem_flatten.2 ⟨s,hs,hy⟩);exact Ag6 (hb s hs y hy) hz h2
def KF (n:Nat) (a:List (List Rat)) (i:Nat):Prop:=D4 (CF n a i)=true /\ ∀ j,j<i->D4 (CF n a j)=false
def E6 (k:Nat):Nat->Nat
 | 0=>k
 | i+1=>4*(E6 k i+E6 k i+1)
theorem AgD {k:Nat} : ∀ i,i<=7->E6 k i<=2097152*k+1198372:=by
 intro i hi;have h1:E6 k 0=k:=rfl;have e1:E6 k 1=4*(E6 k 0+E6 k 0+1):=rfl;have e2:E6 k 2=4*(E6 k 1+E6 k 1+1):=rfl;have e3:E6 k 3=4*(E6 k 2+E6 k 2+1):=rfl;have e4:E6 k 4=4*(E6 k 3+E6 k 3+1):=rfl;have e5:E6 k 5=4*(E6 k 4+E6 k 4+1):=rfl;have e6:E6 k 6=4*(E6 k 5+E6 k 5+1):=rfl;have e7:E6 k 7=4*(E6 k 6+E6 k 6+1):=rfl;obtain rfl|rfl|rfl|rfl|rfl|rfl|rfl|rfl:i=0\/i=1\/i=2\/i=3\/i=4\/i=5\/i=6\/i=7:=by omega
 all_goals omega
theorem gT {n k:Nat} {a:List (List Rat)} (hs:Sq n a) (ha:Ms k a) (hn:n<=4) : ∀ i,Ms (E6 k i) (CF n a i)
 | 0=>ha
 | i+1=>(Ms.mul (gT hs ha hn i) (QX hs i) (gT hs ha hn i)).le (Nat.mul_le_mul_right _ hn)
def E1 (k:Nat):Nat->Nat
 | 0=>17*k
 | i+1=>E1 k i+E1 k i+4
theorem Ahe {k:Nat} : ∀ i,i<=7->E1 k i<=2176*k+508:=by
 intro i hi;have h1:E1 k 0=17*k:=rfl;have e1:E1 k 1=E1 k 0+E1 k 0+4:=rfl;have e2:E1 k 2=E1 k 1+E1 k 1+4:=rfl;have e3:E1 k 3=E1 k 2+E1 k 2+4:=rfl;have e4:E1 k 4=E1 k 3+E1 k 3+4:=rfl;have e5:E1 k 5=E1 k 4+E1 k 4+4:=rfl;have e6:E1 k 6=E1 k 5+E1 k 5+4:=rfl;have e7:E1 k 7=E1 k 6+E1 k 6+4:=rfl;obtain rfl|rfl|rfl|rfl|rfl|rfl|rfl|rfl:i=0\/i=1\/i=2\/i=3\/i=4\/i=5\/i=6\/i=7:=by omega
 all_goals omega
theorem Ag5 {k l n:Nat} {a b:List (List Rat)} (ha : ∀ r∈a,∀ x∈r,Wh k x) (hl : ∀ r∈a,r.length=n) (hb : ∀ r∈b,∀ x∈r,Wh l x) : ∀ r∈F9 a b n,∀ x∈r,Wh (k+l+n) x:=λ r hr x hx=>by
 obtain ⟨s,hs,rfl⟩:=List.mem_map.1 hr;obtain ⟨j,_,rfl⟩:=List.mem_map.1 hx;have hc : ∀ x∈DD b j,Wh l x:=λ x hx=>by
  obtain ⟨t,ht,rfl⟩:=List.mem_map.1 hx;rw[List.getD_eq_getElem?_getD];cases e:t[j]? with
  | none=>exact Wh.zero l
  | some y=>exact hb t ht y (zM e)
 have:=Wh.dot (ha s hs) hc
 rwa [hl s hs]at this
theorem gU {n k:Nat} {a:List (List Rat)} {D:Nat} (hs:Sq n a) (hn:n<=4) (hA : ∀ r∈C0 (D:Rat) a,∀ x∈r,Wh (k+n*n*k) x) : ∀ i,∀ r∈C0 (D6 (D:Rat) i) (CF n a i),∀ x∈r,Wh (E1 k i) x
 | 0=>λ r hr x hx=>(hA r hr x hx).le (by
   show k+n*n*k<=17*k;have:n*n<=4*4:=Nat.mul_le_mul hn hn
   have:=Nat.mul_le_mul_right k this
   omega)
 | i+1=>λ r hr x hx=>by
  rw[<-tX]at hr;exact (Ag5 (gU hs hn hA i) (gK _ (QX hs i).r) (gU hs hn hA i) r hr x hx).le (by simp only[E1];omega)
theorem bW {D M:Nat} (hD:D<=2^M) : ∀ i,Wh (2^i*M) (D6 (D:Rat) i)
 | 0=>⟨(D:Int),by rw[D6,Rat.intCast_natCast],by rw[Nat.pow_zero,Nat.one_mul];simpa using hD⟩
 | i+1=>((bW hD i).mul (bW hD i)).le (by rw[Nat.pow_succ,Nat.mul_two,Nat.add_mul];exact Nat.le_refl _)
theorem Sd {n i:Nat} {a:List (List Rat)} {D:Rat} (hD:0<D):(∀ r∈C0 (D6 D i) (CF n a i),B4 r+B4 r<=D6 D i)↔D4 (CF n a i)=true:=by
 have hp:=bV hD i;rw[Uh];constructor
 ·intro h r hr
  have:=h _ (List.mem_map.2 ⟨r,hr,rfl⟩)
  rw[gI (by grind)]at this;exact (oX hp).1 this
 ·intro h r hr
  obtain ⟨s,hs,rfl⟩:=List.mem_map.1 hr;rw[gI (by grind)];exact (oX hp).2 (h s hs)
theorem WJ {k:Nat} : ∀ {l:List Rat},Bs k l->Bt (l.length*(k+1)) (B4 l)
 | [],_=>Bt.zero _
 | x::l,h=>by
  have h1:=WJ (l:=l) λ y hy=>h y (List.mem_cons_of_mem _ hy)
  have h2:Bt k (FN x):=by
   unfold FN;split
   ·exact (h x List.mem_cons_self).uz
   ·exact h x List.mem_cons_self
  refine (h2.add h1).le ?_;rw[List.length_cons,Nat.succ_mul];omega
theorem jJ {k:Nat} {x:Rat} (h:Bt k x):Bt k (FN x):=by
 unfold FN;split
 ·exact h.uz
 ·exact h
end Go.c5

namespace Go.c5
theorem Wh.of_dvd {k S T:Nat} {x:Rat} (hT:1<=T) (h:Wh k (((S*T:Nat):Rat)*x)) (hz : ∃ z:Int,x*(S:Rat)=(z:Rat)):Wh k (x*(S:Rat)):=by
 obtain ⟨z,hz⟩:=hz;obtain ⟨u,hu,hb⟩:=h;refine ⟨z,hz,?_⟩;have e:((z*(T:Int):Int):Rat)=(u:Rat):=by
  rw[Rat.intCast_mul,<-hz,<-hu,Rat.natCast_mul,Rat.intCast_natCast];grind
 have e2:=Rat.intCast_inj.1 e;have:z.natAbs*T=u.natAbs:=by rw[<-e2,Int.natAbs_mul,Int.natAbs_natCast]
 have h2:z.natAbs<=z.natAbs*T:=Nat.le_mul_of_pos_right _ (by omega);omega
theorem tD {M k m:Nat} {l:List Rat} (hM:1<=M) (hm:M<=2^m) (h : ∀ x∈l,Wh k ((M:Rat)*x)):Wh m (C1 l) /\ ∀ x∈l,Wh k (x*C1 l):=by
 obtain ⟨S,e,⟨T,hT⟩,hz⟩:=Agh (M:=M) (l:=l) λ x hx=>by
  obtain ⟨z,hz,_⟩:=h x hx;exact ⟨z,hz⟩
 have Jm:1<=T:=by
  rcases Nat.eq_zero_or_pos T with h0|h0
  ·rw[h0]at hT;omega
  ·exact h0
 refine ⟨⟨(S:Int),by rw[e,Rat.intCast_natCast],?_⟩,λ x hx => ?_⟩
 ·rw[Int.natAbs_natCast]
  have:S<=S*T:=Nat.le_mul_of_pos_right _ (by omega)
  omega
 ·have h1:=h x hx
  rw[hT]at h1;rw[e];exact Wh.of_dvd Jm h1 (by rw[<-e];exact hz x hx)
section
variable {M ky:Nat} {g:List Pt}
end
end Go.c5

namespace Go.c5
set_option maxHeartbeats 8000000
theorem Q2 {M k:Nat} {a b:Int} {T:Int} (hb:1<=b) (hT:b*T=(M:Int)) (ha:(T*a).natAbs<=2^k):Wh k ((M:Rat)*Rat.divInt a b):=by
 refine ⟨T*a,?_,ha⟩;have h0:(b:Rat)≠0:=λ e=>by
  have:(b:Rat)=((0:Int):Rat):=e
  have:=Rat.intCast_inj.1 this
  omega
 have h1:=Rat.div_mul_cancel h0 (a:=(a:Rat));rw[Rat.divInt_eq_div,show ((M:Nat):Rat)=((b*T:Int):Rat) by rw[hT,Rat.intCast_natCast],Rat.intCast_mul,Rat.intCast_mul];generalize (a:Rat)/(b:Rat)=q at *;rw[<-h1];grind
theorem Ag4 {a b:Int} (ha : -12<=a/\a<=12) (hb:1<=b/\b<=8):Wh 14 (((840:Nat):Rat)*Rat.divInt a b):=by
 have:b=1\/b=2\/b=3\/b=4\/b=5\/b=6\/b=7\/b=8:=by omega
 rcases this with rfl|rfl|rfl|rfl|rfl|rfl|rfl|rfl
 ·exact Q2 (T:=840) (by omega) (by decide) (by omega)
 ·exact Q2 (T:=420) (by omega) (by decide) (by omega)
 ·exact Q2 (T:=280) (by omega) (by decide) (by omega)
 ·exact Q2 (T:=210) (by omega) (by decide) (by omega)
 ·exact Q2 (T:=168) (by omega) (by decide) (by omega)
 ·exact Q2 (T:=140) (by omega) (by decide) (by omega)
 ·exact Q2 (T:=120) (by omega) (by decide) (by omega)
 ·exact Q2 (T:=105) (by omega) (by decide) (by omega)
theorem Bt.Qy {k:Nat} {x:Rat} (h:Bt k x):Bt k (-x):=⟨by rw[Rat.neg_num,Int.natAbs_neg];exact h.1,by rw[Rat.neg_den];exact h.2⟩
def dd (n i j:Nat):Nat:=i*n-i*(i-1)/2+j-i
def DK (i m:Nat):List (Nat × Nat):=(List.range m).map λ t=>(i,i+t)
def BD (n:Nat):Nat->List (Nat × Nat)
 | 0=>[]
 | i+1=>BD n i++DK i (n-i)
theorem rS (i m:Nat):DK i (m+1)=DK i m++[(i,i+m)]:=by
 rw[DK,List.range_succ,List.map_append];rfl
theorem TY (i m:Nat):(DK i m).length=m:=by simp [DK]
theorem rR {n:Nat} : ∀ {m i j:Nat},(i,j)∈BD n m->i<m/\i<=j/\j<n
 | 0,_,_,h=>by cases h
 | m+1,i,j,h=>by
  rcases List.mem_append.1 h with h|h
  ·have:=rR h;omega
  ·obtain ⟨t,ht,e⟩:=List.mem_map.1 h
   have:=List.mem_range.1 ht
   have h1:=congrArg Prod.fst e;have h2:=congrArg Prod.snd e;simp only at h1 h2;omega
theorem PY {n:Nat} (h:n<=3):n=0\/n=1\/n=2\/n=3:=by omega
theorem Afz {n:Nat} (hn:n<=3):(BD n n).length=n*(n+1)/2:=by
 rcases PY hn with rfl|rfl|rfl|rfl<;>rfl
theorem Y9 {n:Nat} (hn:n<=3):(BD n n).length<=6:=by
 rcases PY hn with rfl|rfl|rfl|rfl<;>decide
def gC (A:List (List Rat)) (p q:Nat × Nat):Rat :=
 if q=p then (if q.1=q.2 then -(A0 A p.1 q.1*A0 A p.2 q.2) else -(A0 A p.1 q.1*A0 A p.2 q.2)-A0 A p.1 q.2*A0 A p.2 q.1)+1
 else if q.1=q.2 then -(A0 A p.1 q.1*A0 A p.2 q.2) else -(A0 A p.1 q.1*A0 A p.2 q.2)-A0 A p.1 q.2*A0 A p.2 q.1
def DX (A:List (List Rat)) (n:Nat) (p:Nat × Nat):List Rat:=(BD n n).map (gC A p)
def gM (A:List (List Rat)) (n:Nat):List (List Rat):=(BD n n).map (DX A n)
def bQ (B:List Rat) (i:Nat):Rat:=B.getD i 0
theorem zQ {B:List Rat} {i:Nat} {x:Rat} (h:B[i]? = some x):bQ B i=x:=by rw[bQ,List.getD_eq_getElem?_getD,h];rfl
def gR (B:List Rat) (n:Nat):List Rat:=(BD n n).map λ p=>bQ B p.1*bQ B p.2
theorem DE {k:Nat} {A:List (List Rat)} (h:Ms k A) (i j:Nat):Bt k (A0 A i j):=by
 cases e:A[i]? with
 | none =>
  rw[A0,show A.getD i []=[] by rw[List.getD_eq_getElem?_getD,e];rfl];exact Bt.zero k
 | some r =>
  rw[JW e];exact Bs.getD (h.at e) j
theorem Adw {k:Nat} {A:List (List Rat)} (h:Ms k A) (p q:Nat × Nat):Bt (4*k+2) (gC A p q):=by
 have h1:=((DE h p.1 q.1).mul (DE h p.2 q.2)).Qy;have h2:=(DE h p.1 q.2).mul (DE h p.2 q.1);unfold gC;split<;>split
 ·exact (h1.add (Bt.one 0)).le (by omega)
 ·exact ((h1.lf h2).add (Bt.one 0)).le (by omega)
 ·exact h1.le (by omega)
 ·exact (h1.lf h2).le (by omega)
theorem oO {k:Nat} {A:List (List Rat)} (h:Ms k A) (n:Nat):Ms (4*k+2) (gM A n):=λ r hr=>by
 obtain ⟨p,_,rfl⟩:=List.mem_map.1 hr;intro x hx;obtain ⟨q,_,rfl⟩:=List.mem_map.1 hx;exact Adw h p q
theorem oP {k:Nat} {B:List Rat} (h:Bs k B) (n:Nat):Bs (4*k+2) (gR B n):=λ x hx=>by
 obtain ⟨p,_,rfl⟩:=List.mem_map.1 hx;exact ((Bs.getD h p.1).mul (Bs.getD h p.2)).le (by omega)
theorem TM {n:Nat} (A:List (List Rat)):Sq (BD n n).length (gM A n):=⟨by simp [gM],λ r hr=>by
 obtain ⟨p,_,rfl⟩:=List.mem_map.1 hr;simp [DX]⟩
theorem YO (B:List Rat) (n:Nat):(gR B n).length=(BD n n).length:=by simp [gR]
theorem Ady {M k:Nat} {A:List (List Rat)} (h : ∀ i j,Wh k ((M:Rat)*A0 A i j)) (hM:M<=2^k) {n:Nat} : ∀ r∈gM A n,∀ x∈r,Wh (2*k+2) (((M*M:Nat):Rat)*x):=λ r hr x hx=>by
 obtain ⟨p,_,rfl⟩:=List.mem_map.1 hr;obtain ⟨q,_,rfl⟩:=List.mem_map.1 hx;have h1:=(h p.1 q.1).mul (h p.2 q.2);have h2:=(h p.1 q.2).mul (h p.2 q.1);have h3:Wh (k+k) (((M*M:Nat):Rat)):=⟨((M*M:Nat):Int),by rw[Rat.intCast_natCast],by
  rw[Int.natAbs_natCast,Nat.pow_add];exact Nat.mul_le_mul hM hM⟩
 have e1:(M:Rat)*A0 A p.1 q.1*((M:Rat)*A0 A p.2 q.2)=((M*M:Nat):Rat)*(A0 A p.1 q.1*A0 A p.2 q.2):=by rw[Rat.natCast_mul];grind
 have e2:(M:Rat)*A0 A p.1 q.2*((M:Rat)*A0 A p.2 q.1)=((M*M:Nat):Rat)*(A0 A p.1 q.2*A0 A p.2 q.1):=by rw[Rat.natCast_mul];grind
 rw[e1]at h1;rw[e2]at h2;unfold gC;generalize A0 A p.1 q.1*A0 A p.2 q.2=u at *;generalize A0 A p.1 q.2*A0 A p.2 q.1=v at *;generalize ((M*M:Nat):Rat)=w at *;split<;>split
 ·rw[show w*(-u+1) = -(w*u)+w by grind]
  exact (h1.neg.add h3).le (by omega)
 ·rw[show w*(-u-v+1) = -(w*u)-w*v+w by grind]
  exact ((h1.neg.sub h2).add (h3.le (Nat.le_succ _))).le (by omega)
 ·rw[show w * -u = -(w*u) by grind]
  exact h1.neg.le (by omega)
 ·rw[show w*(-u-v) = -(w*u)-w*v by grind]
  exact (h1.neg.sub h2).le (by omega)
def kM (X:List Rat) (n:Nat):List (List Rat):=(List.range n).map λ i=>(List.range n).map λ j=>X.getD (dd n (min i j) (max i j)) 0
theorem VT (X:List Rat) (n:Nat):Sq n (kM X n):=⟨by simp [kM],λ r hr=>by
 obtain ⟨i,_,rfl⟩:=List.mem_map.1 hr;simp⟩
theorem VS (X:List Rat) {n i j:Nat} (hi:i<n) (hj:j<n):A0 (kM X n) i j=X.getD (dd n (min i j) (max i j)) 0:=by
 rw[JW (r:=(List.range n).map λ j=>X.getD (dd n (min i j) (max i j)) 0) (by rw[kM,List.getElem?_map,List.getElem?_range hi];rfl),List.getD_eq_getElem?_getD,List.getElem?_map,List.getElem?_range hj];rfl
theorem AeJ (X:List Rat) {n i j:Nat} (hi:i<n) (hj:j<n):A0 (kM X n) i j=A0 (kM X n) j i:=by
 rw[VS X hi hj,VS X hj hi,Nat.min_comm,Nat.max_comm]
theorem dK {k:Nat} {X:List Rat} (h:Bs k X) (n:Nat):Ms k (kM X n):=λ r hr=>by
 obtain ⟨i,_,rfl⟩:=List.mem_map.1 hr;intro x hx;obtain ⟨j,_,rfl⟩:=List.mem_map.1 hx;exact Bs.getD h _
def SX (A K:List (List Rat)) (n i j:Nat):Rat:=BW (λ a=>BW (λ b=>A0 A i a*A0 A j b*A0 K a b) n) n
def JT (A:List (List Rat)) (B X:List Rat) (n:Nat):Prop:=X.length=(BD n n).length /\ ∀ (i:Nat) (r:List Rat) (s:Rat),(gM A n)[i]? = some r->(gR B n)[i]? = some s->A3 r X=s
theorem JT.eq {A:List (List Rat)} {B X:List Rat} {n:Nat} (hn:n<=3) (h:JT A B X n) : ∀ i j,i<n->j<n->A0 (kM X n) i j=bQ B i*bQ B j+SX A (kM X n) n i j:=by
 obtain ⟨hl,h⟩:=h;rcases PY hn with rfl|rfl|rfl|rfl
 ·intro i j hi;omega
 ·obtain ⟨x0,rfl⟩ : ∃ x0,X=[x0]:=by
   match X,hl with
   | [x0],_=>exact ⟨x0,rfl⟩
  have h0:=h 0 _ _ rfl rfl;simp [A3,DX,gC,BD,DK,List.range_succ]at h0;intro i j hi hj;obtain rfl:i=0:=by omega
  obtain rfl:j=0:=by omega
  simp only[SX,BW,VS _ (show 0<1 by omega) (show 0<1 by omega)];show x0=_+(0+(0+_*x0));grind
 ·obtain ⟨x0,x1,x2,rfl⟩ : ∃ x0 x1 x2,X=[x0,x1,x2]:=by
   match X,hl with
   | [x0,x1,x2],_=>exact ⟨x0,x1,x2,rfl⟩
  have h0:=h 0 _ _ rfl rfl;have h1:=h 1 _ _ rfl rfl;have h2:=h 2 _ _ rfl rfl;simp [A3,DX,gC,BD,DK,List.range_succ]at h0 h1 h2;have key : ∀ i j,i<2->j<2->A0 (kM [x0,x1,x2] 2) i j=if i=0 then (if j=0 then x0 else x1) else (if j=0 then x1 else x2):=by
   intro i j hi hj;rw[VS _ hi hj];obtain rfl|rfl:i=0\/i=1:=by omega
   all_goals obtain rfl|rfl:j=0\/j=1:=by omega
   all_goals rfl
  intro i j hi hj;rw[key i j hi hj];simp only[SX,BW,key 0 0 (by omega) (by omega),key 0 1 (by omega) (by omega),key 1 0 (by omega) (by omega),key 1 1 (by omega) (by omega)];obtain rfl|rfl:i=0\/i=1:=by omega
  all_goals obtain rfl|rfl:j=0\/j=1:=by omega
  all_goals simp
  all_goals grind
 ·obtain ⟨x0,x1,x2,x3,x4,x5,rfl⟩ : ∃ x0 x1 x2 x3 x4 x5,X=[x0,x1,x2,x3,x4,x5]:=by
   match X,hl with
   | [x0,x1,x2,x3,x4,x5],_=>exact ⟨x0,x1,x2,x3,x4,x5,rfl⟩
  have h0:=h 0 _ _ rfl rfl;have h1:=h 1 _ _ rfl rfl;have h2:=h 2 _ _ rfl rfl;have h3:=h 3 _ _ rfl rfl;have h4:=h 4 _ _ rfl rfl;have h5:=h 5 _ _ rfl rfl;clear h hl;simp [A3,DX,gC,BD,DK,List.range_succ]at h0 h1 h2 h3 h4 h5;have key : ∀ i j,i<3->j<3->A0 (kM [x0,x1,x2,x3,x4,x5] 3) i j=if i=0 then (if j=0 then x0 else if j=1 then x1 else x2) else if i=1 then (if j=0 then x1 else if j=1 then x3 else x4) else (if j=0 then x2 else if j=1 then x4 else x5):=by
   intro i j hi hj;rw[VS _ hi hj];obtain rfl|rfl|rfl:i=0\/i=1\/i=2:=by omega
   all_goals obtain rfl|rfl|rfl:j=0\/j=1\/j=2:=by omega
   all_goals rfl
  intro i j hi hj;rw[key i j hi hj];simp only[SX,BW,key 0 0 (by omega) (by omega),key 0 1 (by omega) (by omega),key 0 2 (by omega) (by omega),key 1 0 (by omega) (by omega),key 1 1 (by omega) (by omega),key 1 2 (by omega) (by omega),key 2 0 (by omega) (by omega),key 2 1 (by omega) (by omega),key 2 2 (by omega) (by omega)];obtain rfl|rfl|rfl:i=0\/i=1\/i=2:=by omega
  all_goals obtain rfl|rfl|rfl:j=0\/j=1\/j=2:=by omega
  all_goals simp
  ·clear h1 h2 h3 h4 h5;grind
  ·clear h0 h2 h3 h4 h5;grind
  ·clear h0 h1 h3 h4 h5;grind
  ·clear h0 h2 h3 h4 h5;grind
  ·clear h0 h1 h2 h4 h5;grind
  ·clear h0 h1 h2 h3 h5;grind
  ·clear h0 h1 h3 h4 h5;grind
  ·clear h0 h1 h2 h3 h5;grind
  ·clear h0 h1 h2 h3 h4;grind
theorem JT.uniq {A:List (List Rat)} {B X Y:List Rat} {n:Nat} (hx:JT A B X n) (hy:JT A B Y n) (hs:NS (BD n n).length (gM A n)):X=Y:=by
 have h1:=hs (SW X (Y.map (-1 * ·))) (by simp [SW,hx.1,hy.1]) (λ r hr=>by
  obtain ⟨i,hi⟩:=List.getElem?_of_mem hr;have u7:=(zS hi).1;obtain ⟨s,hs⟩ : ∃ s,(gR B n)[i]? = some s:=⟨_,zE (by rw[YO];rw[(TM A).l]at u7;exact u7)⟩;have e1:=hx.2 i r s hi hs;have e2:=hy.2 i r s hi hs;rw[mB (by simp [hx.1,hy.1]),KO r (Y.map _),mD,KO Y r,e1,e2];grind)
 refine List.ext_getElem? λ i => ?_
 by_cases hi:i<(BD n n).length
 ·obtain ⟨x,fm⟩ : ∃ x,X[i]? = some x:=⟨_,zE (by rw[hx.1];exact hi)⟩
  obtain ⟨y,rf⟩ : ∃ y,Y[i]? = some y:=⟨_,zE (by rw[hy.1];exact hi)⟩;have h2:=h1 i;rw[List.getD_eq_getElem?_getD,SW,List.getElem?_zipWith,fm,List.getElem?_map,rf]at h2;have h3:x + -1*y=0:=h2;rw[fm,rf,show x=y by grind]
 ·rw[List.getElem?_eq_none (by rw[hx.1];omega),List.getElem?_eq_none (by rw[hy.1];omega)]
def QR (n:Nat) (row:List (Option Rat)) (k h:Nat) (v:Rat):List (Option Rat):=row.set (dd n (min k h) (max k h)) (some ((((row[dd n (min k h) (max k h)]?).getD none).getD 0)-v))
def IE (n:Nat) (row:List (Option Rat)) (k:Nat) (f:Nat->Rat):Nat->List (Option Rat)
 | 0=>row
 | h+1=>QR n (IE n row k f h) k h (f h)
def IQ (n:Nat) (row:List (Option Rat)) (f:Nat->Nat->Rat):Nat->List (Option Rat)
 | 0=>row
 | k+1=>IE n (IQ n row f k) k (f k) n
def PS (n i j:Nat):List (Option Rat):=(List.replicate (n*(n+1)/2) none).set (dd n i j) (some 1)
theorem fP (n:Nat) (row:List (Option Rat)) (k:Nat) (f:Nat->Rat) : ∀ h,(IE n row k f h).length=row.length
 | 0=>rfl
 | h+1=>by rw[IE,QR,List.length_set,fP n row k f h]
theorem sG (n:Nat) (row:List (Option Rat)) (f:Nat->Nat->Rat) : ∀ k,(IQ n row f k).length=row.length
 | 0=>rfl
 | k+1=>by rw[IQ,fP,sG n row f k]
theorem ZB {n k h:Nat} (hn:n<=3) (hk:k<n) (hh:h<n):dd n (min k h) (max k h)<n*(n+1)/2:=by
 have h1 : ∀ n,n<4 -> ∀ k,k<n -> ∀ h,h<n->dd n (min k h) (max k h)<n*(n+1)/2:=by decide
 exact h1 n (by omega) k hk h hh
def OB (k:Nat) (row:List (Option Rat)):Prop := ∀ x,some x∈row->Bt k x
theorem OB.at {k:Nat} {row:List (Option Rat)} (h:OB k row) (i:Nat):Bt k (((row[i]?).getD none).getD 0):=by
 cases e:row[i]? with
 | none=>exact Bt.zero k
 | some o =>
  cases o with
  | none=>exact Bt.zero k
  | some x=>exact h x (zM e)
theorem AfU {n k l:Nat} {row:List (Option Rat)} {a b:Nat} {v:Rat} (h:OB k row) (hv:Bt l v):OB (k+l+1) (QR n row a b v):=λ x hx=>by
 rcases List.mem_or_eq_of_mem_set hx with hx|hx
 ·exact (h x hx).le (by omega)
 ·obtain rfl:=Option.some.inj hx
  exact (h.at _).lf hv
theorem fQ {n k l:Nat} {row:List (Option Rat)} {a:Nat} {f:Nat->Rat} (h:OB k row) (hf : ∀ i,Bt l (f i)) : ∀ t,OB (k+t*(l+1)) (IE n row a f t)
 | 0=>by simpa [IE] using h
 | t+1=>by
  have:=AfU (n:=n) (a:=a) (b:=t) (fQ (n:=n) (a:=a) h hf t) (hf t)
  intro x hx;exact (this x hx).le (by rw[Nat.succ_mul];omega)
theorem sH {n k l:Nat} {row:List (Option Rat)} {f:Nat->Nat->Rat} (h:OB k row) (hf : ∀ i j,Bt l (f i j)) : ∀ t,OB (k+t*(n*(l+1))) (IQ n row f t)
 | 0=>by simpa [IQ] using h
 | t+1=>by
  have:=fQ (n:=n) (a:=t) (sH (n:=n) h hf t) (hf t) n
  intro x hx;exact (this x hx).le (by rw[Nat.succ_mul];omega)
theorem AfT (n i j:Nat):OB 0 (PS n i j):=λ x hx=>by
 rcases List.mem_or_eq_of_mem_set hx with hx|hx
 ·have:=List.eq_of_mem_replicate hx
  cases this
 ·obtain rfl:=Option.some.inj hx
  exact Bt.one 0
theorem AfS {A:List (List Rat)} {n i j:Nat} (hn:n<=3) (eg:i<=j) (hj:j<n):IQ n (PS n i j) (λ k h=>A0 A i k*A0 A j h) n=(DX A n (i,j)).map some:=by
 rcases PY hn with rfl|rfl|rfl|rfl
 ·omega
 ·obtain rfl:j=0:=by omega
  obtain rfl:i=0:=by omega
  simp [IQ,IE,QR,PS,DX,gC,BD,DK,dd,List.range_succ];grind
 ·obtain ⟨rfl,rfl⟩|⟨rfl,rfl⟩|⟨rfl,rfl⟩:(i=0/\j=0)\/(i=0/\j=1)\/(i=1/\j=1):=by omega
  all_goals simp [IQ,IE,QR,PS,DX,gC,BD,DK,dd,List.range_succ]
  all_goals grind
 ·obtain ⟨rfl,rfl⟩|⟨rfl,rfl⟩|⟨rfl,rfl⟩|⟨rfl,rfl⟩|⟨rfl,rfl⟩|⟨rfl,rfl⟩:(i=0/\j=0)\/(i=0/\j=1)\/(i=0/\j=2)\/(i=1/\j=1)\/(i=1/\j=2)\/(i=2/\j=2):=by omega
  all_goals simp [IQ,IE,QR,PS,DX,gC,BD,DK,dd,List.range_succ]
  all_goals grind
def RO (M:List (List (Option Rat))) (i j:Nat) (x:Rat):List (List (Option Rat)):=(M.set i ((M.getD i []).set j (some x))).set j (((M.set i ((M.getD i []).set j (some x))).getD j []).set i (some x))
def KQ (X:List Rat) (n:Nat):Nat->List (List (Option Rat))
 | 0=>List.replicate n (List.replicate n none)
 | u+1=>RO (KQ X n u) ((BD n n).getD u (0,0)).1 ((BD n n).getD u (0,0)).2 (X.getD u 0)
theorem Ads {n i j:Nat} {M:List (List (Option Rat))} {x:Rat} (h:M.length=n /\ ∀ r∈M,r.length=n) (hi:i<n) (hj:j<n):(RO M i j x).length=n /\ ∀ r∈RO M i j x,r.length=n:=by
 have hg : ∀ (M:List (List (Option Rat))) (i:Nat),M.length=n->(∀ r∈M,r.length=n)->i<n->(M.getD i []).length=n:=λ M i h1 h2 h3=>by
  rw[List.getD_eq_getElem?_getD,zE (by omega)];exact h2 _ (List.getElem_mem _)
 have h1:(M.set i ((M.getD i []).set j (some x))).length=n /\ ∀ r∈M.set i ((M.getD i []).set j (some x)),r.length=n:=⟨by rw[List.length_set,h.1],λ r hr=>by
  rcases List.mem_or_eq_of_mem_set hr with hr|rfl
  ·exact h.2 r hr
  ·rw[List.length_set,hg M i h.1 h.2 hi]⟩
 refine ⟨by rw[RO,List.length_set];exact h1.1,λ r hr => ?_⟩;rcases List.mem_or_eq_of_mem_set hr with hr|rfl
 ·exact h1.2 r hr
 ·rw[List.length_set,hg _ j h1.1 h1.2 hj]
theorem Adp {X:List Rat} {n:Nat} (hn:n<=3) (h:X.length=(BD n n).length):KQ X n (BD n n).length=(kM X n).map (·.map some):=by
 rcases PY hn with rfl|rfl|rfl|rfl
 ·rfl
 ·match X,h with
  | [x0],_=>rfl
 ·match X,h with
  | [x0,x1,x2],_=>rfl
 ·match X,h with
  | [x0,x1,x2,x3,x4,x5],_=>rfl
end Go.c5

namespace Go.c5
open F
attribute [local irreducible] AA AF AM AC CI AW AX A5 A6 B3 AQ BS B7 C5 BQ A2 BO B9 AB A9 AJ pw BN BG CH CM CT CP CE BU CK
attribute [local irreducible] KE
variable {L:Lib}
set_option maxHeartbeats 16000000
set_option maxRecDepth 8000
abbrev QB (p:Nat × Nat):List AV:=[.int .i64 ((p.1:Nat):Int),.int .i64 ((p.2:Nat):Int)]
theorem To (l:List (Nat × Nat)):F5 (l.map QB):=S5 (λ p=>by simp only[CW,A4,and_true]) l
theorem rP {n i:Nat} (hi:i<n):(BD n (i+1)).length=(BD n i).length+(n-i):=by
 show (BD n i++DK i (n-i)).length=_;rw[List.length_append,TY]
theorem ZA (n:Nat) {i:Nat} : ∀ d,(BD n i).length<=(BD n (i+d)).length
 | 0=>Nat.le_refl _
 | d+1=>by
  refine Nat.le_trans (ZA n d) ?_;show _<=(BD n (i+d)++DK (i+d) (n-(i+d))).length;rw[List.length_append];omega
theorem nN (N:q8 L) (q1 q2 q3:Bool) (A:List (List Rat)) (b:List Rat) (n:Nat) (hA:A.length=n) (hn:n<=3):Ev L 321 [.agg [.sl q1 (CX q2 A),.sl q3 (b.map eQ)]] (.sl false ((BD n n).map QB)):=by
 have hlen:=Y9 hn;refine Ev.x N.LW rfl rfl ?_;(repeat' ((first|apply AR|apply AD)<;>conv=>whnf))
 refine BR (λ i=>n-i) (λ(i:Nat)=>i<=n) (λ i=>[(9,.int .i64 i),(3,.row 3 0 2 0 (BD n i).length)]) (λ i=>[(3,3,.rw 2 ((BD n i).map QB))]) [] [] 0 (by (conv=>whnf);exact ⟨rfl,rfl,rfl⟩) (by omega) ?_;intro i p1 ih;have Ld:=ZA n (i:=i) (n-i);rw[show i+(n-i)=n by omega]at Ld;by_cases hi:i<n
 ·have hS:=rP hi
  have Bh:=ZA n (i:=i+1) (n-(i+1));rw[show i+1+(n-(i+1))=n by omega]at Bh;(repeat' ((first|(apply AG<;>intro hc<;>try (exfalso;omega))|apply AD)<;>conv=>whnf))
  refine BR (λ t=>n-i-t) (λ(t:Nat)=>t<=n-i) (λ t=>[(5,.int .i64 ((i+t:Nat):Int)),(3,.row 3 0 2 0 ((BD n i).length+t))]) (λ t=>[(3,3,.rw 2 ((BD n i++DK i t).map QB))]) [] [] 0 (by first|exact (by (conv=>whnf);exact ⟨rfl,rfl,rfl⟩)|(rw[show DK i 0=[] from rfl,List.append_nil];exact (by (conv=>whnf);exact ⟨rfl,rfl,rfl⟩))) (by omega) ?_;intro t p2 th;by_cases ht:t<n-i
  ·have Cw:=rS i t
   have fj:(BD n i++DK i t).length=(BD n i).length+t:=by rw[List.length_append,TY]
   have yq:BD n i++DK i (t+1)=(BD n i++DK i t)++[(i,i+t)]:=by rw[Cw,List.append_assoc]
   generalize BD n i++DK i t=R0 at *;(repeat' ((first|(apply AG<;>intro hc<;>try (exfalso;omega))|apply AR|apply D9|apply AD)<;>conv=>whnf))
   refine EO (enc:=QB) (i,i+t) rfl (by omega) rfl (by omega) (by omega) ?_;(conv=>whnf)
   rw[<-yq,show (BD n i++DK i (t+1)).length=(BD n i).length+(t+1) by rw[List.length_append,TY]];(repeat' ((first|(apply AU;omega)|fail)<;>conv=>whnf))
   exact BF [(3,25)] (th (t+1) (by omega) (by omega))
  ·have et:t=n-i:=by omega
   clear th;have e1:BD n i++DK i t=BD n (i+1):=by rw[et];rfl
   have e2:(BD n i).length+t=(BD n (i+1)).length:=by rw[hS,et]
   rw[e1,e2];(repeat' ((first|(apply AG<;>intro hc<;>try (exfalso;omega))|(apply AU;omega)|apply AR|apply AD)<;>conv=>whnf))
   exact BF [] (ih (i+1) (by omega) (by omega))
 ·obtain rfl:i=n:=by omega
  clear ih;(repeat' ((first|(apply AG<;>intro hc<;>try (exfalso;omega))|(refine DL (λ_=>rfl) rfl ?_ ?_;(first|rfl|simp))|apply AD)<;>conv=>whnf))
  exact AZ rfl (by simp only[A4];exact ⟨trivial,To _⟩)
theorem NZ {A:List (List Rat)} {n i:Nat} (hA:Sq n A) (hi:i<n) : ∃ r,A[i]? = some r/\r.length=n /\ ∀ j,j<n->r[j]? = some (A0 A i j):=by
 obtain ⟨r,hr⟩ : ∃ r,A[i]? = some r:=⟨_,zE (by rw[hA.l];exact hi)⟩;have hl:=hA.at hr;refine ⟨r,hr,hl,λ j hj => ?_⟩;rw[JW hr,List.getD_eq_getElem?_getD,zE (by omega)];rfl
theorem I3 {B:List Rat} {n i:Nat} (hB:B.length=n) (hi:i<n):B[i]? = some (bQ B i):=by
 rw[bQ,List.getD_eq_getElem?_getD,zE (by omega)];rfl
theorem Y8 {n u i j:Nat} (h:(BD n n)[u]? = some (i,j)):i<n/\j<n/\i<=j:=by
 have:=rR (zM h)
 omega
theorem PX {α:Type} {l:List α} {i:Nat} {x:α} (h:l[i]? = some x):l.take (i+1)=l.take i++[x]:=by rw[List.take_add_one,h];rfl
theorem WX {a b c d:Nat} {K:Bool->Prop} (hk:K (decide ((a,b)=(c,d)))):KE 2 (QB (a,b)) (QB (c,d)) K:=by
 unfold KE;refine ⟨[(a:Int),(b:Int)],[(c:Int),(d:Int)],rfl,rfl,rfl,rfl,?_⟩;have:decide ([(a:Int),(b:Int)]=[(c:Int),(d:Int)])=decide ((a,b)=(c,d)):=by
  apply decide_eq_decide.2;simp
  omega
 rw[this];exact hk
theorem Yv (N:q8 L) (q1 q2 q3:Bool) (A:List (List Rat)) (B:List Rat) (n k p1 p2:Nat) (hA:Sq n A) (hB:B.length=n) (jl:Ms k A) (yh:Bs k B) (hk:k<=1000000) (hn:n<=3) (h1:p1<n) (h2:p2<n) :
  Ev L 322 [.agg [.sl q1 (CX q2 A),.sl q3 (B.map eQ)],.agg (QB (p1,p2))] (.g7 [.sl false ((DX A n (p1,p2)).map eQ),.agg (eQ (bQ B p1*bQ B p2))]):=by
 have hlen:=Y9 hn;have hP:=λ q1 q2 q3=>nN N q1 q2 q3 A B n hA.l hn
 obtain ⟨r1,w8,ji,jo⟩:=NZ hA h1;obtain ⟨r2,ae,fj,km⟩:=NZ hA h2;have xm:A[((p1:Nat):Int).toNat]? = some r1:=w8;have Fq:A[((p2:Nat):Int).toNat]? = some r2:=ae;have wu:B[((p1:Nat):Int).toNat]? = some (bQ B p1):=I3 hB h1;have Jy:B[((p2:Nat):Int).toNat]? = some (bQ B p2):=I3 hB h2;have Dl:=GY N.toa8 (Bs.at yh (I3 hB h1)) (Bs.at yh (I3 hB h2)) (by omega) (by omega);refine Ev.x N.LV rfl rfl ?_;(repeat' ((first|apply AR|apply AD|refine AE (hP _ _ _) ?_)<;>conv=>whnf))
 refine BR (λ u=>(BD n n).length-u) (λ(u:Nat)=>u<=(BD n n).length) (λ u=>[(13,.int .i64 u),(6,.row 6 0 3 0 u)]) (λ u=>[(6,6,.rw 3 (((DX A n (p1,p2)).take u).map eQ))]) [] [] 0 (by (conv=>whnf);exact ⟨rfl,rfl,rfl⟩) (by omega) ?_;intro u u1 uh;have hgl:(DX A n (p1,p2)).length=(BD n n).length:=by simp [DX]
 by_cases hu:u<(BD n n).length
 ·obtain ⟨⟨i,j⟩,eg⟩ : ∃ p,(BD n n)[u]? = some p:=⟨_,zE hu⟩
  have Er:(BD n n)[((u:Nat):Int).toNat]? = some (i,j):=eg;obtain ⟨g1,g2,g3⟩:=Y8 eg;have uj:(DX A n (p1,p2))[u]? = some (gC A (p1,p2) (i,j)):=by rw[DX,List.getElem?_map,eg];rfl
  have Cw:=PX uj;have aw:((DX A n (p1,p2)).take u).length=u:=by rw[List.length_take];omega
  have a1:r1[((i:Nat):Int).toNat]? = some (A0 A p1 i):=jo i g1;have a2:r2[((j:Nat):Int).toNat]? = some (A0 A p2 j):=km j g2;have a3:r1[((j:Nat):Int).toNat]? = some (A0 A p1 j):=jo j g2;have a4:r2[((i:Nat):Int).toNat]? = some (A0 A p2 i):=km i g1;have b1:=DE jl p1 i;have b2:=DE jl p2 j;have b3:=DE jl p1 j;have b4:=DE jl p2 i;have m1:=GY N.toa8 b1 b2 (by omega) (by omega);have n1:=nK N.ton9 (b1.mul b2) (by omega);have c1:=(b1.mul b2).Qy;have vj:gC A (p1,p2) (i,j)=if (i,j)=(p1,p2) then (if i=j then -(A0 A p1 i*A0 A p2 j) else -(A0 A p1 i*A0 A p2 j)-A0 A p1 j*A0 A p2 i)+1 else if i=j then -(A0 A p1 i*A0 A p2 j) else -(A0 A p1 i*A0 A p2 j)-A0 A p1 j*A0 A p2 i:=rfl
  generalize gC A (p1,p2) (i,j)=gc at *;generalize (DX A n (p1,p2)).take u=R0 at *;have hO:=I7 N.toa8 1 (by omega);by_cases hd:i=j
  ·rw[if_pos hd]at vj
   have ad:=QC N.toa8 c1 (Bt.one 0) (by omega) (by omega);by_cases he:(i,j)=(p1,p2)
   ·have wz:decide ((i,j)=(p1,p2))=true:=decide_eq_true he
    rw[if_pos he]at vj;(repeat' ((first|(apply AG<;>intro hc<;>try (exfalso;omega))|(refine BC (by assumption) ?_ rfl ?_;omega)|apply AD|refine AE (m1) ?_|refine AE (n1) ?_)<;>conv=>whnf))
    ·refine WX ?_
     rw[wz];(conv=>whnf)
     (repeat' ((first|apply D9|refine AE (hO) ?_|refine AE (ad) ?_)<;>conv=>whnf))
     refine EO (enc:=eQ) _ rfl aw.symm rfl (by omega) (by omega) ?_;rw[<-vj,<-Cw,show ((DX A n (p1,p2)).take (u+1)).length=u+1 by rw[List.length_take];omega];(conv=>whnf)
     (repeat' ((first|(apply AU;omega)|fail)<;>conv=>whnf))
     exact BF [(6,76)] (uh (u+1) (by omega) (by omega))
   ·have wz:decide ((i,j)=(p1,p2))=false:=decide_eq_false he
    rw[if_neg he]at vj;(repeat' ((first|(apply AG<;>intro hc<;>try (exfalso;omega))|(refine BC (by assumption) ?_ rfl ?_;omega)|apply AD|refine AE (m1) ?_|refine AE (n1) ?_)<;>conv=>whnf))
    ·refine WX ?_
     rw[wz];(conv=>whnf)
     (repeat' (apply D9<;>conv=>whnf))
     refine EO (enc:=eQ) _ rfl aw.symm rfl (by omega) (by omega) ?_;rw[<-vj,<-Cw,show ((DX A n (p1,p2)).take (u+1)).length=u+1 by rw[List.length_take];omega];(conv=>whnf)
     (repeat' ((first|(apply AU;omega)|fail)<;>conv=>whnf))
     exact BF [(6,76)] (uh (u+1) (by omega) (by omega))
  ·rw[if_neg hd]at vj
   have m2:=GY N.toa8 b3 b4 (by omega) (by omega);have s2:=YJ N.tov5 c1 (b3.mul b4) (by omega) (by omega);have ad:=QC N.toa8 (c1.lf (b3.mul b4)) (Bt.one 0) (by omega) (by omega);by_cases he:(i,j)=(p1,p2)
   ·have wz:decide ((i,j)=(p1,p2))=true:=decide_eq_true he
    rw[if_pos he]at vj;(repeat' ((first|(apply AG<;>intro hc<;>try (exfalso;omega))|(refine BC (by assumption) ?_ rfl ?_;omega)|apply AD|refine AE (m1) ?_|refine AE (n1) ?_|refine AE (m2) ?_|refine AE (s2) ?_)<;>conv=>whnf))
    ·refine WX ?_
     rw[wz];(conv=>whnf)
     (repeat' ((first|apply D9|refine AE (hO) ?_|refine AE (ad) ?_)<;>conv=>whnf))
     refine EO (enc:=eQ) _ rfl aw.symm rfl (by omega) (by omega) ?_;rw[<-vj,<-Cw,show ((DX A n (p1,p2)).take (u+1)).length=u+1 by rw[List.length_take];omega];(conv=>whnf)
     (repeat' ((first|(apply AU;omega)|fail)<;>conv=>whnf))
     exact BF [(6,76)] (uh (u+1) (by omega) (by omega))
   ·have wz:decide ((i,j)=(p1,p2))=false:=decide_eq_false he
    rw[if_neg he]at vj;(repeat' ((first|(apply AG<;>intro hc<;>try (exfalso;omega))|(refine BC (by assumption) ?_ rfl ?_;omega)|apply AD|refine AE (m1) ?_|refine AE (n1) ?_|refine AE (m2) ?_|refine AE (s2) ?_)<;>conv=>whnf))
    ·refine WX ?_
     rw[wz];(conv=>whnf)
     (repeat' (apply D9<;>conv=>whnf))
     refine EO (enc:=eQ) _ rfl aw.symm rfl (by omega) (by omega) ?_;rw[<-vj,<-Cw,show ((DX A n (p1,p2)).take (u+1)).length=u+1 by rw[List.length_take];omega];(conv=>whnf)
     (repeat' ((first|(apply AU;omega)|fail)<;>conv=>whnf))
     exact BF [(6,76)] (uh (u+1) (by omega) (by omega))
 ·have eu:u=(BD n n).length:=by omega
  clear uh;rw[List.take_of_length_le (by omega)];(repeat' ((first|(apply AG<;>intro hc<;>try (exfalso;omega))|(refine BC (by assumption) ?_ rfl ?_;omega)|apply AD|refine AE (Dl) ?_)<;>conv=>whnf))
  refine DL (enc:=eQ) (λ_=>rfl) rfl (by omega) ?_;(conv=>whnf)
  refine AZ rfl ?_;simp only[A4,CW,and_true,true_and];exact ⟨JY _,CQ _,CQ _⟩
end Go.c5

namespace Go.c5
open F
attribute [local irreducible] AA AF AM AC CI AW AX A5 A6 B3 AQ BS B7 C5 BQ A2 BO B9 AB A9 AJ pw BN BG CH CM CT CP CE BU CK
variable {L:Lib}
set_option maxHeartbeats 16000000
theorem AfF (x:Rat):qv false (dg x.num.natAbs) (dg x.den)=FN x:=by
 unfold FN;split
 ·rename_i h
  have:=EJ (-x)
  rw[Rat.neg_num,Int.natAbs_neg,Rat.neg_den,show decide (-x.num<0)=false from decide_eq_false (by omega)]at this;exact this
 ·rename_i h
  have:=EJ x
  rw[show decide (x.num<0)=false from decide_eq_false h]at this;exact this
theorem Uq (N:cq L) {x:Rat} {k:Nat} (hx:Bt k x) (hk:k<2199023255552):Ev L 256 [.agg (eQ x)] (.agg (eQ (FN x))):=by
 have hs:=hx.sm hk;have hT:=cN N.toa8 false false false (dg x.num.natAbs) (dg x.den) (hs.1.le (by omega)) (hs.2.le (by omega));rw[AfF]at hT;refine Ev.x N.MD rfl rfl ?_;(repeat' ((first|apply AD|refine AE (hT) ?_)<;>conv=>whnf))
 exact AZ rfl (DH _)
theorem Vo (z:Int):eQ (z:Rat)=[.bool (decide (z<0)),.sl false ((dg z.natAbs).map AL),.sl false [[.int .u32 1]]]:=by
 simp only[eQ,rQ,Rat.num_intCast,Rat.den_intCast,bP];rfl
end Go.c5



namespace Go.c5
end Go.c5

namespace Go.c5
open F
attribute [local irreducible] AA AF AM AC CI AW AX A5 A6 B3 AQ BS B7 C5 BQ A2 BO B9 AB A9 AJ pw BN BG CH CM CT CP CE BU CK
variable {L:Lib}
set_option maxHeartbeats 16000000
set_option maxRecDepth 8000
theorem qR {T:List (List Rat)} {n i:Nat} (hl:T.length=n) (hi:i<n):(mz T n i)[i]? = some none:=by
 have fj:(BJ 3 eQ (T.take i)).length=i:=by simp only[BJ,List.length_map,List.length_take];omega
 have:=Adu (z:=(none:Option (Nat × List (List AV)))) (l:=BJ 3 eQ (T.take i)) (m:=n) (by omega)
 rw[fj]at this;exact this
theorem bL {k:Nat} {x:Rat} (h:Bt k x):Bt k ((x.den:Nat):Rat):=by
 refine ⟨?_,?_⟩
 ·rw[Rat.num_natCast,Int.natAbs_natCast];exact h.2
 ·rw[Rat.den_natCast];exact Nat.one_le_two_pow
theorem Ta (x:Rat):((x.den:Nat):Rat)≠0:=λ e=>by
 have:((x.den:Nat):Rat)=((0:Nat):Rat):=e
 have:=Rat.natCast_inj.1 this
 have:=x.den_pos
 omega
theorem nL (N:q9 L) {x:Rat} {k:Nat} (hx:Bt k x) (hk:k<2199023255552):Ev L 294 [.agg (eQ x)] (.agg (eQ ((x.den:Nat):Rat))):=by
 have hT:=cP N.toa8 hx hk;have m8:=DH ((x.den:Nat):Rat);have e:eQ ((x.den:Nat):Rat)=[.bool false,.sl false ((dg x.den).map AL),.sl false [[.int .u32 1]]]:=by
  rw[<-Rat.intCast_natCast,Vo,Int.natAbs_natCast,show decide (((x.den:Nat):Int)<0)=false by simp]
 rw[e]at m8 ⊢;refine Ev.x N.L5 rfl rfl ?_;(repeat' ((first|refine IL rfl ?_|apply AD|refine AE (hT) ?_)<;>conv=>whnf))
 exact AZ rfl m8
theorem Xp (N:q9 L) (q q':Bool) (ls:List (List Rat)) (k:Nat) (hb:Ms k ls) (hl:ls.flatten.length<=64) (vk:ls.length<=1000) (hk:k<=1000000):Ev L 295 [.sl q (CX q' ls)] (.agg (eQ (C1 ls.flatten))):=by
 have hO:=I7 N.toa8 1 (by omega);rw[show ((1:Int):Rat)=1 from rfl]at hO;have key : ∀ (i j:Nat) (r:List Rat) (x:Rat),ls[i]? = some r->r[j]? = some x -> ∃ S:Nat,C1 ((ls.take i).flatten++r.take j)=(S:Rat)/\Bt (64*k) (S:Rat)/\C1 ((ls.take i).flatten++r.take (j+1))=(S:Rat)*(((S:Rat)/((x.den:Nat):Rat)).den:Nat):=by
  intro i j r x hr hx;have aj:=(zS hx).1;have hlen:((ls.take i).flatten++r.take j).length<=64:=by
   have e:ls.flatten=(ls.take i).flatten++(r++(ls.drop (i+1)).flatten):=by
    have h1:=(zS hr);obtain ⟨h1,h2⟩:=h1;conv=>lhs;rw[<-List.take_append_drop i ls,List.flatten_append,List.drop_eq_getElem_cons h1,h2,List.flatten_cons]
   rw[e,List.length_append,List.length_append]at hl;rw[List.length_append,List.length_take];omega
  have wv:Bs k ((ls.take i).flatten++r.take j):=λ y hy=>by
   rcases List.mem_append.1 hy with hy|hy
   ·obtain ⟨s,hs,hy⟩:=List.mem_flatten.1 hy
    exact hb s (List.mem_of_mem_take hs) y hy
   ·exact hb r (zM hr) y (List.mem_of_mem_take hy)
  obtain ⟨S,e,h1,h2,_⟩:=sZ wv;refine ⟨S,e,⟨?_,?_⟩,?_⟩
  ·rw[Rat.num_natCast,Int.natAbs_natCast]
   exact Nat.le_trans h2 (Nat.pow_le_pow_right (by omega) (Nat.mul_le_mul_right k hlen))
  ·rw[Rat.den_natCast];exact Nat.one_le_two_pow
  ·rw[List.take_add_one,hx,Option.toList_some,<-List.append_assoc,tC,e,OY,Tb]
 refine Ev.x N.L3 rfl rfl ?_;(repeat' ((first|apply AR|apply AD|refine AE (hO) ?_)<;>conv=>whnf))
 refine BR (λ i=>ls.length-i) (λ(i:Nat)=>i<=ls.length) (λ i=>[(13,.int .i64 i)]) (λ i=>[(3,3,.bx (eQ (C1 (ls.take i).flatten)))]) [] [] 0 (by rw[show C1 (ls.take 0).flatten=1 from rfl];exact (by (conv=>whnf);exact ⟨rfl,rfl,rfl⟩)) (by omega) ?_;intro i p1 ih;by_cases hi:i<ls.length
 ·obtain ⟨r,hr⟩ : ∃ r,ls[i]? = some r:=⟨_,zE hi⟩
  have iz:ls[(i:Int).toNat]? = some r:=hr;have ic:=hb r (zM hr);have bp:r.length<=64:=by
   have e:ls.flatten=(ls.take i).flatten++(r++(ls.drop (i+1)).flatten):=by
    obtain ⟨h1,h2⟩:=zS hr;conv=>lhs;rw[<-List.take_append_drop i ls,List.flatten_append,List.drop_eq_getElem_cons h1,h2,List.flatten_cons]
   rw[e,List.length_append,List.length_append]at hl;omega
  have df:(ls.take (i+1)).flatten=(ls.take i).flatten++r:=by
   rw[List.take_add_one,hr,List.flatten_append];simp
  (repeat' ((first|(apply AG<;>intro hc<;>try (exfalso;omega))|apply AR|(refine BC (by assumption) ?_ rfl ?_;omega)|apply AD)<;>conv=>whnf))
  refine BR (λ j=>r.length-j) (λ(j:Nat)=>j<=r.length) (λ j=>[(19,.int .i64 j)]) (λ j=>[(3,3,.bx (eQ (C1 ((ls.take i).flatten++r.take j))))]) [] [] 0 (by rw[List.take_zero,List.append_nil];exact (by (conv=>whnf);exact ⟨rfl,rfl,rfl⟩)) (by omega) ?_;intro j r1 jh;by_cases hj:j<r.length
  ·obtain ⟨x,hx⟩ : ∃ x,r[j]? = some x:=⟨_,zE hj⟩
   have fm:r[(j:Int).toNat]? = some x:=hx;obtain ⟨S,e,hS,e2⟩:=key i j r x hr hx;have Gg:=ic.at hx;have qi:=nL N Gg (by omega);have hq:=hS.td (bL Gg);have hDv:=YG N.toa8 hS (bL Gg) (by omega) (by omega) (Ta x);have qj:=nL N hq (by omega);have hM:=GY N.toa8 hS (bL hq) (by omega) (by omega);rw[<-e2]at hM;rw[e];generalize (S:Rat)/((x.den:Nat):Rat)=y at *;generalize ((x.den:Nat):Rat)=d at *;generalize (S:Rat)=s at *;generalize ((y.den:Nat):Rat)=d2 at *;(repeat' ((first|(apply AG<;>intro hc<;>try (exfalso;omega))|(apply AU;omega)|(refine BC (by assumption) ?_ rfl ?_;omega)|apply AD|refine AE (qi) ?_|refine AE (hDv) ?_|refine AE (qj) ?_|refine AE (hM) ?_)<;>conv=>whnf))
   exact BF [] (jh (j+1) (by omega) (by omega))
  obtain rfl:j=r.length:=by omega
  clear jh;rw[List.take_of_length_le (Nat.le_refl _),<-df];(repeat' ((first|(apply AG<;>intro hc<;>try (exfalso;omega))|(apply AU;omega)|apply AD)<;>conv=>whnf))
  exact BF [] (ih (i+1) (by omega) (by omega))
 obtain rfl:i=ls.length:=by omega
 clear ih;rw[List.take_of_length_le (Nat.le_refl _)];(repeat' ((first|(apply AG<;>intro hc<;>try (exfalso;omega))|apply AD)<;>conv=>whnf))
 exact AZ rfl (DH _)
theorem Xx (N:q9 L) (q:Bool) (v:List Rat) (c:Rat) (k l:Nat) (hv:Bs k v) (hc:Bt l c) (hk:k<1099511627776) (hl:l<1099511627776) (hn:v.length<=1000000):Ev L 296 [.sl q (v.map eQ),.agg (eQ c)] (.sl false ((v.map (· * c)).map eQ)):=by
 refine Ev.x N.L9 rfl rfl ?_;(repeat' ((first|apply AR|apply AD)<;>conv=>whnf))
 refine EX (enc:=eO) none v.length rfl rfl (by omega) ?_;(conv=>whnf)
 (repeat' (apply AR<;>conv=>whnf))
 refine BR (λ i=>v.length-i) (λ(i:Nat)=>i<=v.length) (λ i=>[(12,.int .i64 i)]) (λ i=>[(9,9,.rw 3 ((EM ((v.map (· * c)).take i) v.length).map eO))]) [] [] 0 (by first|exact (by (conv=>whnf);exact ⟨rfl,rfl,rfl⟩)|(rw[List.take_zero,<-QF];exact (by (conv=>whnf);exact ⟨rfl,rfl,rfl⟩))) (by omega) ?_;intro i p1 ih;have aw:((v.map (· * c)).take i).length=i:=by rw[List.length_take,List.length_map];omega
 have Hl:=PJ (l:=(v.map (· * c)).take i) (m:=v.length) (by omega);by_cases hi:i<v.length
 ·obtain ⟨x,hx⟩ : ∃ x,v[i]? = some x:=⟨_,zE hi⟩
  have fm:v[(i:Int).toNat]? = some x:=hx;have hy:(v.map (· * c))[i]? = some (x*c):=by rw[List.getElem?_map,hx];rfl
  have hs:=QG (l:=(v.map (· * c)).take i) (m:=v.length) (x:=x*c) (by omega);rw[aw,<-IX hy]at hs;have hM:=GY N.toa8 (hv.at hx) hc (by omega) (by omega);generalize EM ((v.map (· * c)).take i) v.length=F0 at *;generalize x*c=y at *;(repeat' ((first|(apply AG<;>intro hc<;>try (exfalso;omega))|(apply AY;omega)|(refine BC (by assumption) ?_ rfl ?_;omega)|apply AD|refine AE (hM) ?_)<;>conv=>whnf))
  refine FW (enc:=eO) (some y) rfl (λ e=>by cases e<;>rfl) (by omega) ?_;(conv=>whnf)
  rw[hs];(repeat' ((first|(apply AU;omega)|fail)<;>conv=>whnf))
  exact BF [] (ih (i+1) (by omega) (by omega))
 obtain rfl:i=v.length:=by omega
 clear ih;have cu:(v.map (· * c)).length=v.length:=List.length_map _;rw[List.take_of_length_le (by omega),QE cu];(repeat' ((first|(apply AG<;>intro hc<;>try (exfalso;omega))|(refine DL (λ_=>rfl) rfl ?_ ?_;(first|rfl|simp))|apply AD)<;>conv=>whnf))
 exact AZ rfl (by simp only[A4,true_and];exact JY _)
abbrev cB (q:Bool) (x:Rat):List AV:=rQ q q (decide (x.num<0)) (dg x.num.natAbs) (dg x.den)
theorem Adj (N:a8 L) (q:Bool) {x:Rat} {k:Nat} (hx:Bt k x) (hk:k<2199023255552):Ev L 97 [.agg (cB q x)] (.int .i64 (o8 x.num)):=by
 have hs:=hx.sm hk;have:=nV N (decide (x.num<0)) q q (dg x.num.natAbs) (dg x.den) (hs.1.le (by omega)) (hs.2.le (by omega))
 rwa [EJ]at this
theorem Xg (N:a8 L) (q:Bool) {x y:Rat} {k l:Nat} (hx:Bt k x) (hy:Bt l y) (hk:k<2199023255552) (hl:l<2199023255552):Ev L 99 [.agg (eQ x),.agg (cB q y)] (.agg (eQ (x*y))):=by
 have h1:=hx.sm hk;have h2:=hy.sm hl;have:=cM N 68719476736 (by omega) (decide (x.num<0)) (decide (y.num<0)) false false q q (dg x.num.natAbs) (dg x.den) (dg y.num.natAbs) (dg y.den) h1.1 h1.2 h2.1 h2.2
 rwa [EJ,EJ]at this
theorem Xt (N:q9 L) (q1 q2 qb:Bool) (a b:List Rat) (k l:Nat) (hl:a.length=b.length) (ha:Bs k a) (hb:Bs l b) (hn:a.length<=64) (hk:k<=1000000000) (ia:l<=1000000000):Ev L 297 [.sl q1 (a.map eQ),.sl q2 (b.map (cB qb))] (.agg (eQ (A3 a b))):=by
 have hO:=I7 N.toa8 0 (by omega);rw[show ((0:Int):Rat)=0 from rfl]at hO;refine Ev.x N.L6 rfl rfl ?_;(repeat' ((first|apply AR|apply AD|refine AE (hO) ?_)<;>conv=>whnf))
 refine BR (λ i=>a.length-i) (λ(i:Nat)=>i<=a.length) (λ i=>[(10,.int .i64 i)]) (λ i=>[(5,5,.bx (eQ (A3 (a.take i) (b.take i))))]) [] [] 0 (by rw[show A3 (a.take 0) (b.take 0)=0 from rfl];exact (by (conv=>whnf);exact ⟨rfl,rfl,rfl⟩)) (by omega) ?_;intro i p1 ih;by_cases hi:i<a.length
 ·obtain ⟨x,hx⟩ : ∃ x,a[i]? = some x:=⟨_,zE hi⟩
  obtain ⟨y,hy⟩ : ∃ y,b[i]? = some y:=⟨_,zE (by omega)⟩;have fm:a[(i:Int).toNat]? = some x:=hx;have rf:b[(i:Int).toNat]? = some y:=hy;have vf:=VG N.toa8 (ha.at hx) (by omega);have yo:=Adj N.toa8 qb (hb.at hy) (by omega);have hM:=Xg N.toa8 qb (ha.at hx) (hb.at hy) (by omega) (by omega);have hd:Bt (64*(k+l+1)) (A3 (a.take i) (b.take i)):=by
   refine ((ha.take i).dot (hb.take i)).le (Nat.mul_le_mul_right _ ?_);rw[List.length_take];omega
  have hA:=QC N.toa8 hd ((ha.at hx).mul (hb.at hy)) (by omega) (by omega);rw[<-U4 hx hy]at hA;have hz:x=0\/y=0->A3 (a.take i) (b.take i)=A3 (a.take (i+1)) (b.take (i+1)):=λ h=>by
   rw[U4 hx hy];rcases h with h|h<;>rw[h]<;>grind
  by_cases h1:x=0
  ·have s1:o8 x.num=0:=QV.2 h1
   rw[s1]at vf;rw[hz (Or.inl h1)];clear hA hz hd;(repeat' ((first|(apply AG<;>intro hc<;>try (exfalso;omega))|(apply AU;omega)|(refine BC (by assumption) ?_ rfl ?_;omega)|apply AD|refine AE (vf) ?_)<;>conv=>whnf))
   exact BF [] (ih (i+1) (by omega) (by omega))
  ·have s1:o8 x.num≠0:=λ h=>h1 (QV.1 h)
   generalize o8 x.num=g1 at *;by_cases h2:y=0
   ·have s2:o8 y.num=0:=QV.2 h2
    rw[s2]at yo;rw[hz (Or.inr h2)];clear hA hz hd;(repeat' ((first|(apply AG<;>intro hc<;>try (exfalso;omega))|(apply AU;omega)|(refine BC (by assumption) ?_ rfl ?_;omega)|apply AD|refine AE (vf) ?_|refine AE (yo) ?_)<;>conv=>whnf))
    exact BF [] (ih (i+1) (by omega) (by omega))
   ·have s2:o8 y.num≠0:=λ h=>h2 (QV.1 h)
    generalize o8 y.num=g2 at *;clear hz hd;generalize A3 (a.take i) (b.take i)=w at *;generalize x*y=p at *;(repeat' ((first|(apply AG<;>intro hc<;>try (exfalso;omega))|(apply AU;omega)|(refine BC (by assumption) ?_ rfl ?_;omega)|apply AD|refine AE (vf) ?_|refine AE (yo) ?_|refine AE (hM) ?_|refine AE (hA) ?_)<;>conv=>whnf))
    exact BF [] (ih (i+1) (by omega) (by omega))
 obtain rfl:i=a.length:=by omega
 clear ih;rw[S8 rfl];(repeat' ((first|(apply AG<;>intro hc<;>try (exfalso;omega))|apply AD)<;>conv=>whnf))
 exact AZ rfl (DH _)
theorem Xr (N:q9 L) (q1 q2:Bool) (a b:List Rat) (k l:Nat) (hl:a.length=b.length) (ha:Bs k a) (hb:Bs l b) (hn:a.length<=64) (hk:k<=1000000000) (ia:l<=1000000000):Ev L 297 [.sl q1 (a.map eQ),.sl q2 (b.map eQ)] (.agg (eQ (A3 a b))):=Xt N q1 q2 false a b k l hl ha hb hn hk ia
end Go.c5



namespace Go.c5
open F
attribute [local irreducible] AA AF AM AC CI AW AX A5 A6 B3 AQ BS B7 C5 BQ A2 BO B9 AB A9 AJ pw BN BG CH CM CT CP CE BU CK
variable {L:Lib} (n:Nt)
set_option maxHeartbeats 1000000
end Go.c5



namespace Go.c5
open F
attribute [local irreducible] AA AF AM AC CI AW AX A5 A6 B3 AQ BS B7 C5 BQ A2 BO B9 AB A9 AJ pw BN BG CH CM CT CP CE BU CK
variable {L:Lib}
set_option maxHeartbeats 1000000
end Go.c5



namespace Go.c5
open F
attribute [local irreducible] AA AF AM AC CI AW AX A5 A6 B3 AQ BS B7 C5 BQ A2 BO B9 AB A9 AJ pw BN BG CH CM CT CP CE BU CK
variable {L:Lib}
set_option maxHeartbeats 4000000
end Go.c5

namespace Go.c5
open F
attribute [local irreducible] AA AF AM AC CI AW AX A5 A6 B3 AQ BS B7 C5 BQ A2 BO B9 AB A9 AJ pw BN BG CH CM CT CP CE BU CK
variable {L:Lib}
variable (b a:List Int) (d c:Wd)
variable {b a d c}
set_option maxHeartbeats 4000000
end Go.c5

namespace Go.c5
open F
attribute [local irreducible] AA AF AM AC CI AW AX A5 A6 B3 AQ BS B7 C5 BQ A2 BO B9 AB A9 AJ pw BN BG CH CM CT CP CE BU CK
variable {L:Lib}
set_option maxHeartbeats 8000000
end Go.c5

namespace Go.c5
open F
attribute [local irreducible] AA AF AM AC CI AW AX A5 A6 B3 AQ BS B7 C5 BQ A2 BO B9 AB A9 AJ pw BN BG CH CM CT CP CE BU CK
attribute [local irreducible] KE
variable {L:Lib}
set_option maxHeartbeats 8000000
end Go.c5

namespace Go.c5
open F
attribute [local irreducible] AA AF AM AC CI AW AX A5 A6 B3 AQ BS B7 C5 BQ A2 BO B9 AB A9 AJ pw BN BG CH CM CT CP CE BU CK
variable {L:Lib}
set_option maxHeartbeats 16000000
set_option maxRecDepth 8000
theorem tJ {l:List Rat} {i:Nat} {x:Rat} (h:l[i]? = some x):B4 (l.take (i+1))=B4 (l.take i)+FN x:=by rw[IX h,tH]
theorem Xy (N:q9 L) (q:Bool) (v:List Rat) (k:Nat) (hv:Bs k v) (hn:v.length<=1000) (hk:k<=1000000000):Ev L 300 [.sl q (v.map eQ)] (.agg (eQ (B4 v))):=by
 have hO:=I7 N.toa8 0 (by omega);rw[show ((0:Int):Rat)=0 from rfl]at hO;refine Ev.x N.MA rfl rfl ?_;(repeat' ((first|apply AR|apply AD|refine AE (hO) ?_)<;>conv=>whnf))
 refine BR (λ i=>v.length-i) (λ(i:Nat)=>i<=v.length) (λ i=>[(9,.int .i64 i)]) (λ i=>[(3,3,.bx (eQ (B4 (v.take i))))]) [] [] 0 (by rw[show B4 (v.take 0)=0 from rfl];exact (by (conv=>whnf);exact ⟨rfl,rfl,rfl⟩)) (by omega) ?_;intro i p1 ih;by_cases hi:i<v.length
 ·obtain ⟨x,hx⟩ : ∃ x,v[i]? = some x:=⟨_,zE hi⟩
  have fm:v[(i:Int).toNat]? = some x:=hx;have hA:=Uq N.tocq (hv.at hx) (by omega);have hz:Bt (1000*(k+1)) (B4 (v.take i)):=(WJ (hv.take i)).le (Nat.mul_le_mul_right _ (by rw[List.length_take];omega));have hP:=QC N.toa8 hz (jJ (hv.at hx)) (by omega) (by omega);rw[<-tJ hx]at hP;generalize B4 (v.take i)=w at *;generalize FN x=y at *;(repeat' ((first|(apply AG<;>intro hc<;>try (exfalso;omega))|(apply AU;omega)|(refine BC (by assumption) ?_ rfl ?_;omega)|apply AD|refine AE (hA) ?_|refine AE (hP) ?_)<;>conv=>whnf))
  exact BF [] (ih (i+1) (by omega) (by omega))
 obtain rfl:i=v.length:=by omega
 clear ih;rw[List.take_of_length_le (Nat.le_refl _)];(repeat' ((first|(apply AG<;>intro hc<;>try (exfalso;omega))|apply AD)<;>conv=>whnf))
 exact AZ rfl (DH _)
theorem gE {x y:Rat}:0<o8 (x-y).num↔y<x:=by
 have h:=gD (x-y).num;have e1:(x-y).num<0↔x<y:=by rw[eG];constructor<;>intro h<;>grind
 have e2:(x-y).num=0↔x=y:=by rw[Rat.num_eq_zero];constructor<;>intro h<;>grind
 rcases h with ⟨h1,h2⟩|⟨h1,h2⟩|⟨h1,h2⟩
 ·have:=e1.1 h2
  rw[h1];constructor
  ·intro h;omega
  ·intro h;grind
 ·have:=e2.1 h2
  rw[h1];constructor
  ·intro h;omega
  ·intro h;grind
 ·have h3 : ¬ x<y:=λ h=>by have:=e1.2 h;omega
  have h4 : ¬ x=y:=λ h=>by have:=e2.2 h;omega
  rw[h1];constructor
  ·intro _;grind
  ·intro _;omega
theorem Xq (N:q9 L) (q q':Bool) (a:List (List Rat)) (D:Rat) (n k l:Nat) (hs:Sq n a) (ha:Ms k a) (hD:Bt l D) (hn:n<=16) (hk:k<=1000000000) (hl:l<=1000000000):Ev L 302 [.sl q (CX q' a),.agg (eQ D)] (.bool (decide (∀ r∈a,B4 r+B4 r<=D))):=by
 have z0:=hs.l;refine Ev.x N.L4 rfl rfl ?_;(repeat' ((first|apply AR|apply AD)<;>conv=>whnf))
 refine BR (λ i=>n-i) (λ(i:Nat)=>i<=n /\ ∀ r∈a.take i,B4 r+B4 r<=D) (λ i=>[(10,.int .i64 i)]) (λ_=>[]) [] [] 0 (by (conv=>whnf);exact ⟨rfl,rfl,rfl⟩) ⟨by omega,λ r hr=>by cases hr⟩ ?_;intro i ⟨p1,p2⟩ ih;by_cases hi:i<n
 ·obtain ⟨r,hr⟩ : ∃ r,a[i]? = some r:=⟨_,zE (by omega)⟩
  have iz:a[(i:Int).toNat]? = some r:=hr;have bp:=hs.at hr;have hT:=λ q=>Xy N q r k (ha.at hr) (by omega) hk
  have hz:Bt (16*(k+1)) (B4 r):=(WJ (ha.at hr)).le (Nat.mul_le_mul_right _ (by omega));have hP:=QC N.toa8 hz hz (by omega) (by omega);have hC:=mZ N.ton9 (hz.add hz) hD (by omega) (by omega);have hg:=gE (x:=B4 r+B4 r) (y:=D);by_cases h:D<B4 r+B4 r
  ·have Cp : ¬ ∀ r∈a,B4 r+B4 r<=D:=λ e=>by
    have:=e r (zM hr)
    grind
   have:=hg.2 h
   rw[decide_eq_false Cp];clear Cp p2 ih hz h hg;generalize o8 (B4 r+B4 r-D).num=g at *;generalize B4 r+B4 r=w at *;generalize B4 r=z at *;(repeat' ((first|(apply AG<;>intro hc<;>try (exfalso;omega))|(refine BC (by assumption) ?_ rfl ?_;omega)|apply AD|refine AE (hT _) ?_|refine AE (hP) ?_|refine AE (hC) ?_)<;>conv=>whnf))
   exact IZ rfl
  ·have My : ∀ r∈a.take (i+1),B4 r+B4 r<=D:=λ s hs=>by
    rw[IX hr]at hs;rcases List.mem_append.1 hs with hs|hs
    ·exact p2 s hs
    ·obtain rfl:=List.mem_singleton.1 hs
     grind
   have : ¬ 0<o8 (B4 r+B4 r-D).num:=λ e=>h (hg.1 e)
   clear p2 hz h hg;generalize o8 (B4 r+B4 r-D).num=g at *;generalize B4 r+B4 r=w at *;generalize B4 r=z at *;(repeat' ((first|(apply AG<;>intro hc<;>try (exfalso;omega))|(apply AU;omega)|(refine BC (by assumption) ?_ rfl ?_;omega)|apply AD|refine AE (hT _) ?_|refine AE (hP) ?_|refine AE (hC) ?_)<;>conv=>whnf))
   exact BF [] (ih (i+1) (by omega) ⟨by omega,My⟩)
 obtain rfl:i=n:=by omega
 clear ih;rw[List.take_of_length_le (by omega)]at p2;rw[decide_eq_true p2];(repeat' ((first|(apply AG<;>intro hc<;>try (exfalso;omega))|apply AD)<;>conv=>whnf))
 exact IZ rfl
theorem qG {α:Type} {a b:List α} {j:Nat} {y:α} (hl:a.length=b.length) (hy:a[j]? = some y):(a.take j++b.drop j).set j y=a.take (j+1)++b.drop (j+1):=by
 have h:=(zS hy).1;rw[List.set_append_right _ _ (by rw[List.length_take];omega),List.length_take,Nat.min_eq_left (by omega),Nat.sub_self,List.drop_eq_getElem_cons (by omega),List.set_cons_zero,List.take_add_one,hy,Option.toList_some,List.append_assoc];rfl
def HA (Q:List (List Rat)) (n j:Nat):List (Option (Nat × List (List AV))):=Q.map λ r=>some (3,(EM (r.take j) n).map eO)
def JZ (Q:List (List Rat)) (n j m:Nat):List (Option (Nat × List (List AV))):=(HA Q n (j+1)).take m++(HA Q n j).drop m
theorem PD (Q:List (List Rat)) (n j:Nat):(HA Q n j).length=Q.length:=by simp [HA]
theorem Ue (Q:List (List Rat)) (n j:Nat):JZ Q n j 0=HA Q n j:=by simp [JZ]
theorem Ub (Q:List (List Rat)) (n j:Nat):JZ Q n j Q.length=HA Q n (j+1):=by
 rw[JZ,List.take_of_length_le (by rw[PD];exact Nat.le_refl _),List.drop_of_length_le (by rw[PD];exact Nat.le_refl _),List.append_nil]
theorem Uc {Q:List (List Rat)} {n j m:Nat} (h:m<=Q.length):(JZ Q n j m).length=Q.length:=by
 rw[JZ,List.length_append,List.length_take,List.length_drop,PD,PD];omega
theorem Ua {Q:List (List Rat)} {n j m:Nat} {r:List Rat} (hr:Q[m]? = some r):(JZ Q n j m)[m]? = some (some (3,(EM (r.take j) n).map eO)):=by
 have h:=(zS hr).1;rw[JZ,List.getElem?_append_right (by rw[List.length_take,PD];omega),List.length_take,PD,Nat.min_eq_left (by omega),Nat.sub_self,List.getElem?_drop,Nat.add_zero,HA,List.getElem?_map,hr];rfl
theorem Ud {Q:List (List Rat)} {n j m:Nat} {r:List Rat} (hr:Q[m]? = some r):(JZ Q n j m).set m (some (3,(EM (r.take (j+1)) n).map eO))=JZ Q n j (m+1):=by
 have h:=(zS hr).1;exact qG (by rw[PD,PD]) (by rw[HA,List.getElem?_map,hr];rfl)
theorem wU {R:List (Option (Nat × List (List AV)))} {i z:Nat} {es:List (List AV)} {K:Nat->List (List AV)->Prop} (h:R[i]? = some (some (z,es))) (hk:K z es):BG R i K:=by
 unfold BG;exact ⟨z,es,h,hk⟩
theorem Uf {Q:List (List Rat)} {n:Nat} (h : ∀ r∈Q,r.length=n):HA Q n n=BJ 3 eQ Q:=by
 refine List.map_congr_left λ r hr => ?_
 have:=h r hr
 rw[List.take_of_length_le (by omega),QE this]
theorem Xv (N:q9 L) (q q':Bool) (a:List (List Rat)) (n k:Nat) (hs:Sq n a) (ha:Ms k a) (hn:n<=4) (hk:k<=1000000000):Ev L 299 [.sl q (CX q' a)] (.sl false (eM (F9 a a n))):=by
 have z0:=hs.l;have ym:Sq n (F9 a a n):=Sq.mul hs.l a;have Dr : ∀ (i:Nat) (r:List Rat),a[i]? = some r->(F9 a a n)[i]? = some (FB r a n):=λ i r hr=>by rw[F9,List.getElem?_map,hr];rfl
 have Aj : ∀ (j:Nat) (r:List Rat),j<n->(FB r a n)[j]? = some (A3 r (DD a j)):=λ j r hj=>by rw[FB,List.getElem?_map,List.getElem?_range hj];rfl
 have yk:=ym.l;have Cg:=ym.r;generalize F9 a a n=Q at *;refine Ev.x N.L7 rfl rfl ?_;(repeat' ((first|apply AR|apply AD)<;>conv=>whnf))
 unfold CT;refine ⟨⟨by omega,by omega,by simp only[DP];omega,by omega⟩,?_⟩;rw[Int.toNat_natCast,z0];(conv=>whnf)
 skip
 have ka:=PD Q n 0;have Gr : ∀ i,i<n->(HA Q n 0)[i]? = some (some (3,(List.replicate n (none:Option Rat)).map eO)):=λ i hi=>by
  rw[HA,List.getElem?_map,zE (by omega),Option.map_some,List.take_zero,QF]
 refine BR (λ i=>n-i) (λ(i:Nat)=>i<=n) (λ i=>[(15,.int .i64 i)]) (λ i=>[(13,13,.mx (fz none ((HA Q n 0).take i) n))]) [] [] 0 (by first|exact (by (conv=>whnf);exact ⟨rfl,rfl,rfl⟩)|(rw[List.take_zero,show fz (none:Option (Nat × List (List AV))) [] n=List.replicate n none by simp [fz]];exact (by (conv=>whnf);exact ⟨rfl,rfl,rfl⟩))) (by omega) ?_;intro i p1 ih;have aw:((HA Q n 0).take i).length=i:=by rw[List.length_take];omega
 have df:=TK (z:=(none:Option (Nat × List (List AV)))) (l:=(HA Q n 0).take i) (m:=n) (by omega);by_cases hi:i<n
 ·have gm:=TL (z:=(none:Option (Nat × List (List AV)))) (x:=some (3,(List.replicate n (none:Option Rat)).map eO)) (l:=(HA Q n 0).take i) (m:=n) (by omega)
  rw[aw,<-IX (Gr i hi)]at gm;generalize fz (none:Option (Nat × List (List AV))) ((HA Q n 0).take i) n=J at *;(repeat' ((first|(apply AG<;>intro hc<;>try (exfalso;omega))|apply AD)<;>conv=>whnf))
  refine EX (enc:=eO) none n rfl rfl (by omega) ?_;(conv=>whnf)
  (repeat' ((first|(apply AY;omega)|fail)<;>conv=>whnf))
  unfold AM CH;refine ⟨by simp,by omega,?_⟩;(conv=>whnf)
  rw[show 0+((i:Int)).toNat=i by omega,gm];(repeat' ((first|(apply AU;omega)|fail)<;>conv=>whnf))
  exact BF [] (ih (i+1) (by omega) (by omega))
 have ei:i=n:=by omega
 clear ih df;rw[ei,List.take_of_length_le (by omega),TJ (by omega)];(repeat' ((first|(apply AG<;>intro hc<;>try (exfalso;omega))|apply AD)<;>conv=>whnf))
 refine EX (enc:=eO) none n rfl rfl (by omega) ?_;(conv=>whnf)
 skip
 refine F3 (λ j _=>n-j) (λ(j:Nat) (C:List (Option Rat))=>j<=n/\C.length=n) (λ j _=>[(27,.int .i64 j)]) (λ j C=>[(25,25,.rw 3 (C.map eO)),(13,13,.mx (HA Q n j))]) [] [] 0 (List.replicate n none) (by (conv=>whnf);exact ⟨rfl,rfl,rfl⟩) ⟨by omega,by simp⟩ ?_;intro j C ⟨r1,r2⟩ jh;by_cases hj:j<n
 ·have m8:(DD a j).length=n:=by rw[Tw];exact z0
  have Kb:((DD a j).map some).length=n:=by rw[List.length_map];exact m8
  (repeat' ((first|(apply AG<;>intro hc<;>try (exfalso;omega))|apply AD)<;>conv=>whnf))
  refine BR (λ i=>n-i) (λ(i:Nat)=>i<=n) (λ i=>[(31,.int .i64 i)]) (λ i=>[(25,25,.rw 3 ((((DD a j).map some).take i++C.drop i).map eO))]) [] [] 0 (by rw[List.take_zero,List.drop_zero,List.nil_append];exact (by (conv=>whnf);exact ⟨rfl,rfl,rfl⟩)) (by omega) ?_;intro i2 s1 kh;have cu:(((DD a j).map some).take i2++C.drop i2).length=n:=by rw[List.length_append,List.length_take,List.length_drop];omega
  by_cases kp:i2<n
  ·obtain ⟨r,hr⟩ : ∃ r,a[i2]? = some r:=⟨_,zE (by omega)⟩
   have bp:=hs.at hr;obtain ⟨x,hx⟩ : ∃ x,r[j]? = some x:=⟨_,zE (by omega)⟩;have iz:a[(i2:Int).toNat]? = some r:=hr;have fm:r[(j:Int).toNat]? = some x:=hx;have hcx:((DD a j).map some)[i2]? = some (some x):=by
    rw[List.getElem?_map,DD,List.getElem?_map,hr];simp only[Option.map_some,List.getD_eq_getElem?_getD,hx,Option.getD_some]
   have j6:=qG (a:=(DD a j).map some) (b:=C) (by omega) hcx;generalize ((DD a j).map some).take i2++C.drop i2=W at *;(repeat' ((first|(apply AG<;>intro hc<;>try (exfalso;omega))|(apply AY;omega)|(refine BC (by assumption) ?_ rfl ?_;omega)|apply AD)<;>conv=>whnf))
   refine FW (enc:=eO) (some x) rfl (λ e=>by cases e<;>rfl) (by omega) ?_;(conv=>whnf)
   rw[j6];(repeat' ((first|(apply AU;omega)|fail)<;>conv=>whnf))
   exact BF [] (kh (i2+1) (by omega) (by omega))
  obtain rfl:i2=n:=by omega
  clear kh cu;rw[List.take_of_length_le (by omega),List.drop_of_length_le (by omega),List.append_nil,show ((DD a j).map some).map eO=(DD a j).map eQ by rw[List.map_map];rfl];(repeat' ((first|(apply AG<;>intro hc<;>try (exfalso;omega))|apply AD)<;>conv=>whnf))
  refine BR (λ i=>i2-i) (λ(i:Nat)=>i<=i2) (λ i=>[(46,.int .i64 i)]) (λ i=>[(13,13,.mx (JZ Q i2 j i))]) [] [] 0 (by rw[Ue];exact (by (conv=>whnf);exact ⟨rfl,rfl,rfl⟩)) (by omega) ?_;intro i3 s2 lh;have cu:=Uc (Q:=Q) (n:=i2) (j:=j) (m:=i3) (by omega);by_cases rm:i3<i2
  ·obtain ⟨r,hr⟩ : ∃ r,a[i3]? = some r:=⟨_,zE (by omega)⟩
   have bp:=hs.at hr;have iz:a[(i3:Int).toNat]? = some r:=hr;have hq:=Dr i3 r hr;have dz:=Ua (n:=i2) (j:=j) hq;have ou:=Ud (n:=i2) (j:=j) hq;have Qq:=Aj j r hj;have vn:(FB r a i2).length=i2:=Cg _ (zM hq);have Hu:((FB r a i2).take j).length=j:=by rw[List.length_take];omega
   have gm:=QG (l:=(FB r a i2).take j) (m:=i2) (x:=A3 r (DD a j)) (by omega);rw[Hu,<-IX Qq]at gm;have df:=PJ (l:=(FB r a i2).take j) (m:=i2) (by omega);rw[<-gm]at ou;have hD:=λ q q'=>Xr N q q' r (DD a j) k k (by omega) (ha.at hr) (Ms.Gq ha j) (by omega) hk hk
   clear hq Qq gm Hu vn;generalize EM ((FB r a i2).take j) i2=W at *;generalize A3 r (DD a j)=y at *;generalize JZ Q i2 j i3=R0 at *;(repeat' ((first|(apply AG<;>intro hc<;>try (exfalso;omega))|(apply AY;omega)|apply AD)<;>conv=>whnf))
   refine aC (r:=some (3,W.map eO)) (by rw[Nat.zero_add,Int.toNat_natCast];exact dz) ?_;(conv=>whnf)
   (repeat' ((first|(refine BC (by assumption) ?_ rfl ?_;omega)|fail)<;>conv=>whnf))
   refine DL (enc:=eQ) (λ_=>rfl) rfl m8.symm ?_;(conv=>whnf)
   (repeat' (refine AE (hD _ _) ?_<;>conv=>whnf))
   refine AY (by rw[List.length_map];omega) ?_;(conv=>whnf)
   skip
   refine wU (z:=3) (es:=W.map eO) (by rw[Nat.zero_add,Int.toNat_natCast];exact dz) ?_;(conv=>whnf)
   refine FW (enc:=eO) (some y) rfl (λ e=>by cases e<;>rfl) (by omega) ?_;(conv=>whnf)
   unfold CM;refine ⟨by rw[List.length_map,List.length_map,List.length_set],?_⟩;rw[show 0+((i3:Int)).toNat=i3 by omega,ou];(conv=>whnf)
   (repeat' ((first|(apply AU;omega)|fail)<;>conv=>whnf))
   exact BF [] (lh (i3+1) (by omega) (by omega))
  obtain rfl:i3=i2:=by omega
  clear lh cu;have yx:=Ub Q i3 j;rw[yk]at yx;rw[yx];(repeat' ((first|(apply AG<;>intro hc<;>try (exfalso;omega))|(apply AU;omega)|apply AD)<;>conv=>whnf))
  rw[show (DD a j).map eQ=((DD a j).map some).map eO by rw[List.map_map];rfl];exact BF [] (jh (j+1) ((DD a j).map some) (by omega) ⟨by omega,by rw[List.length_map];exact m8⟩)
 have ej:j=n:=by omega
 clear jh;rw[ej,Uf Cg];(repeat' ((first|(apply AG<;>intro hc<;>try (exfalso;omega))|apply AD)<;>conv=>whnf))
 refine I2 (λ_=>rfl) rfl (by omega) ?_;(conv=>whnf)
 exact AZ rfl (kE Q)
abbrev QA (q:Bool) (R:List (List Rat)) (D:Rat) (p:Int) (T:Rat):List AV:=[.sl false (CX q R)]++eQ D++[.int .i64 p]++eQ T
theorem aY (R:List (List Rat)) (D:Rat) (p:Int) (T:Rat) (e:Int):A4 (.g7 [.agg (QA false R D p T),.int .i64 e]):=by
 have h1:=aZ R;have h2:=DH D;have h3:=DH T;simp only[A4,CW,true_and,and_true,QA,List.cons_append,List.nil_append]at h1 h2 h3 ⊢;exact ⟨h1,h2.1,h2.2,h3.1,h3.2⟩
theorem eT {i:Nat} (h:i<=6):2^i<=64/\(2^i=64->i=6)/\1<=2^i:=by
 obtain rfl|rfl|rfl|rfl|rfl|rfl|rfl:i=0\/i=1\/i=2\/i=3\/i=4\/i=5\/i=6:=by omega
 all_goals decide
theorem rU {D:Rat} {d:Nat} (h:Bt d D) : ∀ j:Nat,Bt (j*d) (D^j)
 | 0=>by rw[Rat.pow_zero];exact Bt.one _
 | j+1=>by
  rw[Rat.pow_succ];exact ((rU h j).mul h).le (by rw[Nat.succ_mul];omega)
theorem Afi {S M:Nat} (h:S<=2^M):Bt M (S:Rat):=by
 refine ⟨?_,?_⟩
 ·rw[Rat.num_natCast,Int.natAbs_natCast];exact h
 ·rw[Rat.den_natCast];exact Nat.one_le_two_pow
theorem Afj {S:Nat} (h:0<S):(0:Rat)<(S:Rat):=by
 have:=Rat.natCast_lt_natCast.2 h
 exact this
theorem Xw (N:q9 L) (q q':Bool) (a:List (List Rat)) (n k:Nat) (hs:Sq n a) (ha:Ms k a) (hn:n<=4) (hk:k<=100000) :
  ∃ v,Ev L 303 [.sl q (CX q' a)] v/\((∃ i,i<=6/\KF n a i/\v = .g7 [.agg (QA false (C0 (C1 a.flatten) a) (C1 a.flatten) ((2^i:Nat):Int) (C1 a.flatten^(2^i+2^i-1))),.int .i64 0]) \/
   ((∀ j,j<=6->D4 (CF n a j)=false)/\v = .g7 [.agg [.sl false [],.bool false,.sl false [],.sl false [],.int .i64 0,.bool false,.sl false [],.sl false []],.int .i64 14])):=by
 have z0:=hs.l;have hnn:n*n<=4*4:=Nat.mul_le_mul hn hn;have Qa:n*n*k<=16*k:=Nat.mul_le_mul_right k hnn;have df:a.flatten.length<=64:=by
  have : ∀ (a:List (List Rat)),(∀ r∈a,r.length=n)->a.flatten.length=a.length*n:=by
   intro a;induction a with
   | nil=>intro _;simp
   | cons r a ih =>
    intro h;rw[List.flatten_cons,List.length_append,ih λ x hx=>h x (List.mem_cons_of_mem _ hx),h r List.mem_cons_self,List.length_cons,Nat.succ_mul,Nat.add_comm]
  rw[this a hs.r,z0];omega
 have Ce:=Xp N q q' a k ha df (by omega) (by omega);have hO:=I7 N.toa8 1 (by omega);rw[show ((1:Int):Rat)=1 from rfl]at hO;obtain ⟨D0,eD,d1,d2,d3⟩:=Agq hs ha;have Iw:Bt (16*k) (D0:Rat):=Afi (Nat.le_trans d2 (Nat.pow_le_pow_right (by omega) Qa));have hDp:(0:Rat)<(D0:Rat):=Afj d1;have Oa:=bW (Nat.le_trans d2 (Nat.pow_le_pow_right (by omega) Qa));have Oi:=gU hs hn d3;rw[eD]at Ce ⊢;generalize (D0:Rat)=D at *;clear eD d1 d2 d3;have Ao:(C0 D a).length=n:=by rw[gJ];exact z0
 have Jq : ∀ (i:Nat) (r:List Rat),a[i]? = some r->(C0 D a)[i]? = some (r.map (· * D)):=λ i r hr=>Ago hr
 have fe : ∀ i,Sq n (C0 (D6 D i) (CF n a i)):=λ i=>Agp _ (QX hs i)
 have qu : ∀ i,i<=6->Ms 300000000 (C0 (D6 D i) (CF n a i)):=λ i hi r hr x hx=>((Oi i r hr x hx).le (by have:=Ahe (k:=k) i (by omega);omega)).bt
 have bm : ∀ i,i<=6->Bt 300000000 (D6 D i):=λ i hi=>((Oa i).le (by
  have:=(eT hi).1
  have:=Nat.mul_le_mul_right (16*k) this
  omega)).bt
 have Nz:=λ(i:Nat) (q q':Bool) (hi:i<=6)=>Xq N q q' (C0 (D6 D i) (CF n a i)) (D6 D i) n 300000000 300000000 (fe i) (qu i hi) (bm i hi) (by omega) (by omega) (by omega)
 have Dw:=λ(i:Nat) (q q':Bool) (hi:i<=6)=>Xv N q q' (C0 (D6 D i) (CF n a i)) n 300000000 (fe i) (qu i hi) hn (by omega)
 have Og:=λ(i:Nat) (hi:i<=6)=>GY N.toa8 (bm i hi) (bm i hi) (by omega) (by omega)
 have j6 : ∀ i,F9 (C0 (D6 D i) (CF n a i)) (C0 (D6 D i) (CF n a i)) n=C0 (D6 D (i+1)) (CF n a (i+1)):=λ i=>tX n a D i
 have Ed : ∀ i,(∀ r∈C0 (D6 D i) (CF n a i),B4 r+B4 r<=D6 D i)↔D4 (CF n a i)=true:=λ i=>Sd hDp
 have Oe:=λ(j:Nat) (hj:j<=128)=>GY N.toa8 (rU Iw j) Iw (show j*(16*k)<2199023255552 by
  have:=Nat.mul_le_mul_right (16*k) hj
  omega) (by omega)
 have Ei : ∀ (i:Nat) (q q':Bool),i<=6->Ev L 302 [.sl q (CX q' (C0 (D6 D i) (CF n a i))),.agg (eQ (D6 D i))] (.bool (D4 (CF n a i))):=λ i q q' hi=>by
  have:=Nz i q q' hi
  rwa [show decide (∀ r∈C0 (D6 D i) (CF n a i),B4 r+B4 r<=D6 D i)=D4 (CF n a i) by rw[Bool.eq_iff_iff,decide_eq_true_iff];exact Ed i]at this
 have Dv : ∀ (i:Nat) (q q':Bool),i<=6->Ev L 299 [.sl q (CX q' (C0 (D6 D i) (CF n a i)))] (.sl false (eM (C0 (D6 D (i+1)) (CF n a (i+1))))):=λ i q q' hi=>by
  have:=Dw i q q' hi
  rwa [j6]at this
 have cr : ∀ i,i<=6->Ev L 99 [.agg (eQ (D6 D i)),.agg (eQ (D6 D i))] (.agg (eQ (D6 D (i+1)))):=Og;have Ja : ∀ j:Nat,j<=128->Ev L 99 [.agg (eQ (D^j)),.agg (eQ D)] (.agg (eQ (D^(j+1)))):=λ j hj=>by
  have:=Oe j hj
  rwa [<-Rat.pow_succ]at this
 have Iu : ∀ q q':Bool,Ev L 302 [.sl q (CX q' (C0 D a)),.agg (eQ D)] (.bool (D4 (CF n a 0))):=λ q q'=>Ei 0 q q' (by omega)
 have yn : ∀ q q':Bool,Ev L 299 [.sl q (CX q' (C0 D a))] (.sl false (eM (C0 (D6 D 1) (CF n a 1)))):=λ q q'=>Dv 0 q q' (by omega)
 have Jb:Ev L 99 [.agg (eQ D),.agg (eQ D)] (.agg (eQ (D6 D 1))):=cr 0 (by omega);clear Nz Dw Og Oe j6 Ed qu bm fe Oi Oa;refine Ev.xE N.L8 rfl rfl ?_;by_cases h0:n=0
 ·obtain rfl:a=[]:=List.length_eq_zero_iff.1 (by omega)
  have hb:D4 (CF n [] 0)=true:=rfl;have po:=Iu false false;rw[hb]at po;have hC2:Ev L 302 [.sl false [],.agg (eQ D)] (.bool true):=po;have Gv:=Ja 0 (by omega);rw[Rat.pow_zero]at Gv;(repeat' ((first|apply AR|apply AD|refine AE (Ce) ?_|refine AE (hO) ?_)<;>conv=>whnf))
  refine F4 ?_;(repeat' ((first|(apply AG<;>intro hc<;>try (exfalso;omega))|apply AD)<;>conv=>whnf))
  refine F4 ?_;(repeat' ((first|(apply B6;omega)|(apply EF;omega)|apply AD|refine AE (hC2) ?_)<;>conv=>whnf))
  refine F4 ?_;(repeat' ((first|(apply AG<;>intro hc<;>try (exfalso;omega))|(apply AU;omega)|apply AD|refine AE (Gv) ?_)<;>conv=>whnf))
  refine F4 ?_;(repeat' ((first|(apply AG<;>intro hc<;>try (exfalso;omega))|apply AD)<;>conv=>whnf))
  refine ⟨.g7 [.agg (QA false [] D 1 (D^1)),.int .i64 0],?_,Or.inl ⟨0,by omega,⟨rfl,λ j hj=>absurd hj (by omega)⟩,rfl⟩⟩;exact AZ rfl (aY [] D 1 (D^1) 0)
 (repeat' ((first|apply AR|apply AD|refine AE (Ce) ?_|refine AE (hO) ?_)<;>conv=>whnf))
 refine F3 (λ i _=>n-i) (λ(i:Nat) (fl:Bool)=>i<=n/\fl=decide (i=0)) (λ i _=>[(15,.int .i64 i)]) (λ i fl=>bif fl then [] else [(4,4,.bx ([.row 1000 0 1 0 i]++eQ D++[.int .i64 1]++eQ 1)),(1000,26,.rw 1 (((C0 D a).take i).map λ r=>[AV.sl false (r.map eQ)]))]) [] [] 0 true (by (conv=>whnf);exact ⟨rfl,rfl,rfl⟩) ⟨by omega,rfl⟩ ?_;intro i fl ⟨p1,p2⟩ ih;have bp:((C0 D a).take i).length=i:=by rw[List.length_take];omega
 by_cases hi:i<n
 ·obtain ⟨r,hr⟩ : ∃ r,a[i]? = some r:=⟨_,zE (by omega)⟩
  have iz:a[(i:Int).toNat]? = some r:=hr;have fk:=hs.at hr;have Ot:=λ q=>Xx N q r D k (16*k) (ha.at hr) Iw (by omega) (by omega) (by omega)
  have dz:=Jq i r hr;generalize r.map (· * D)=w at *;cases fl
  ·have qa:i≠0:=by simpa using p2.symm
   (repeat' ((first|(apply AG<;>intro hc<;>try (exfalso;omega))|(refine BC (by assumption) ?_ rfl ?_;omega)|apply D9|apply AD|refine AE (Ot _) ?_)<;>conv=>whnf))
   refine EO (l:=(C0 D a).take i) (z:=1) (bytes:=24) (enc:=λ r:List Rat=>[AV.sl false (r.map eQ)]) w rfl bp.symm rfl (by omega) (by omega) ?_;(conv=>whnf)
   (repeat' ((first|(apply AU;omega)|fail)<;>conv=>whnf))
   rw[<-IX dz,show ((C0 D a).take (i+1)).length=i+1 by rw[List.length_take];omega];exact BF [(1000,26)] (ih (i+1) false (by omega) ⟨by omega,by simp⟩)
  ·have qa:i=0:=by simpa using p2.symm
   subst qa;(repeat' ((first|(apply AG<;>intro hc<;>try (exfalso;omega))|(refine BC (by assumption) ?_ rfl ?_;omega)|apply D9|apply AD|refine AE (Ot _) ?_)<;>conv=>whnf))
   refine UF (enc:=λ r:List Rat=>[AV.sl false (r.map eQ)]) w rfl rfl (by omega) ?_;(conv=>whnf)
   (repeat' ((first|(apply AU;omega)|fail)<;>conv=>whnf))
   rw[show [w]=(C0 D a).take (0+1) by rw[IX dz];rfl];exact BF [(1000,26)] (ih 1 false (by omega) ⟨by omega,by simp⟩)
 have ei:i=n:=by omega
 obtain rfl:fl=false:=by rw[p2];simp;omega
 clear ih p2 bp;rw[ei,List.take_of_length_le (by omega)];(repeat' ((first|(apply AG<;>intro hc<;>try (exfalso;omega))|apply AD)<;>conv=>whnf))
 refine F3 (λ i _=>7-i) (λ(i:Nat) (fl:Bool)=>i<=6/\(fl=true->i=0) /\ ∀ j,j<i->D4 (CF n a j)=false) (λ i fl=>[(7,bif fl then .row 1000 0 1 0 n else .sl false (eM (C0 (D6 D i) (CF n a i))))]) (λ i _=>[(8,8,.bx (eQ (D6 D i))),(4,4,.bx ([.row 1000 0 1 0 n]++eQ D++[.int .i64 ((2^i:Nat):Int)]++eQ 1))]) [] [] 0 true (by (conv=>whnf);exact ⟨rfl,rfl,rfl⟩) ⟨by omega,λ_=>rfl,λ j hj=>absurd hj (by omega)⟩ ?_;intro i fl ⟨s1,s2,s3⟩ jh;obtain ⟨g1,g2,g3⟩:=eT s1;have Cr:((2^(i+1):Nat):Int)=((2^i:Nat):Int)*2:=by rw[Nat.pow_succ];omega
 have Ek:=λ q q'=>Ei i q q' s1
 have hsi:=λ q q'=>Dv i q q' s1
 have Ld:=cr i s1;cases hb:D4 (CF n a i)
 ·rw[hb]at Ek
  by_cases h6:i=6
  ·have e64:((2^i:Nat):Int)=64:=by rw[h6];rfl
   have jn : ∀ j,j<=6->D4 (CF n a j)=false:=λ j hj=>by
    by_cases h:j=6
    ·rw[h,<-h6];exact hb
    ·exact s3 j (by omega)
   cases fl
   ·rw[e64]
    (repeat' ((first|(apply AG<;>intro hc<;>try (exfalso;omega))|apply AD|refine AE (Ek _ _) ?_)<;>conv=>whnf))
    exact ⟨_,AZ rfl (by simp [A4,CW,F5]),Or.inr ⟨jn,rfl⟩⟩
   ·exact absurd (s2 rfl) (by omega)
  ·have Amo:((2^i:Nat):Int)≠64:=λ e=>h6 (g2 (by omega))
   have gi : ∀ j,j<i+1->D4 (CF n a j)=false:=λ j hj=>by
    by_cases h:j=i
    ·rw[h];exact hb
    ·exact s3 j (by omega)
   cases fl
   ·generalize 2^i=P at *
    (repeat' ((first|(apply AG<;>intro hc<;>try (exfalso;omega))|(apply EF;omega)|apply AD|refine AE (Ek _ _) ?_|refine AE (hsi _ _) ?_|refine AE (Ld) ?_)<;>conv=>whnf))
    rw[<-Cr];exact BF [] (jh (i+1) false (by omega) ⟨by omega,(λ h=>by cases h),gi⟩)
   ·obtain rfl:=s2 rfl
    have po:=Iu;rw[hb]at po;generalize 2^0=P at *;(repeat' (apply AD<;>conv=>whnf))
    refine DL (enc:=λ r:List Rat=>[AV.sl false (r.map eQ)]) (λ_=>rfl) rfl Ao.symm ?_;(conv=>whnf)
    (repeat' ((first|(apply AG<;>intro hc<;>try (exfalso;omega))|refine AE (po _ _) ?_)<;>conv=>whnf))
    refine DL (enc:=λ r:List Rat=>[AV.sl false (r.map eQ)]) (λ_=>rfl) rfl Ao.symm ?_;(conv=>whnf)
    (repeat' ((first|(apply EF;omega)|refine AE (yn _ _) ?_|refine AE (Jb) ?_)<;>conv=>whnf))
    rw[<-Cr];exact BF [] (jh (0+1) false (by omega) ⟨by omega,(λ h=>by cases h),gi⟩)
 ·rw[hb]at Ek
  have ko:KF n a i:=⟨hb,s3⟩;have u9 : ∀ r:AV,r = .g7 [.agg (QA false (C0 D a) D ((2^i:Nat):Int) (D^(2^i+2^i-1))),.int .i64 0]->((∃ i,i<=6/\KF n a i/\r = .g7 [.agg (QA false (C0 D a) D ((2^i:Nat):Int) (D^(2^i+2^i-1))),.int .i64 0])\/((∀ j,j<=6->D4 (CF n a j)=false)/\r = .g7 [.agg [.sl false [],.bool false,.sl false [],.sl false [],.int .i64 0,.bool false,.sl false [],.sl false []],.int .i64 14])):=λ r hr=>Or.inl ⟨i,s1,ko,hr⟩
  clear Cr jh;generalize 2^i=P at *;cases fl
  ·(repeat' ((first|(apply B6;omega)|(apply EF;omega)|apply AD|refine AE (Ek _ _) ?_)<;>conv=>whnf))
   refine BR (λ j=>P+P-1-j) (λ(j:Nat)=>j<=P+P-1) (λ j=>[(54,.int .i64 j)]) (λ j=>[(4,4,.bx ([.row 1000 0 1 0 n]++eQ D++[.int .i64 (P:Int)]++eQ (D^j)))]) [] [] 0 (by rw[Rat.pow_zero];exact (by (conv=>whnf);exact ⟨rfl,rfl,rfl⟩)) (by omega) ?_;intro j t1 kh;by_cases hj:j<P+P-1
   ·have hl:=Ja j (by omega)
    (repeat' ((first|(apply AG<;>intro hc<;>try (exfalso;omega))|(apply AU;omega)|apply AD|refine AE (hl) ?_)<;>conv=>whnf))
    exact BF [] (kh (j+1) (by omega) (by omega))
   have ej:j=P+P-1:=by omega
   clear kh;rw[ej];(repeat' ((first|(apply AG<;>intro hc<;>try (exfalso;omega))|apply AD)<;>conv=>whnf))
   refine ⟨.g7 [.agg (QA false (C0 D a) D (P:Int) (D^(P+P-1))),.int .i64 0],?_,u9 _ rfl⟩;(conv=>whnf)
   refine DL (enc:=λ r:List Rat=>[AV.sl false (r.map eQ)]) (λ_=>rfl) rfl Ao.symm ?_;(conv=>whnf)
   exact AZ rfl (aY _ _ _ _ 0)
  ·obtain rfl:=s2 rfl
   have po:=Iu;rw[hb]at po;(repeat' (apply AD<;>conv=>whnf))
   refine DL (enc:=λ r:List Rat=>[AV.sl false (r.map eQ)]) (λ_=>rfl) rfl Ao.symm ?_;(conv=>whnf)
   (repeat' ((first|(apply B6;omega)|(apply EF;omega)|refine AE (po _ _) ?_)<;>conv=>whnf))
   refine BR (λ j=>P+P-1-j) (λ(j:Nat)=>j<=P+P-1) (λ j=>[(54,.int .i64 j)]) (λ j=>[(4,4,.bx ([.row 1000 0 1 0 n]++eQ D++[.int .i64 (P:Int)]++eQ (D^j)))]) [] [] 0 (by rw[Rat.pow_zero];exact (by (conv=>whnf);exact ⟨rfl,rfl,rfl⟩)) (by omega) ?_;intro j t1 kh;by_cases hj:j<P+P-1
   ·have hl:=Ja j (by omega)
    (repeat' ((first|(apply AG<;>intro hc<;>try (exfalso;omega))|(apply AU;omega)|apply AD|refine AE (hl) ?_)<;>conv=>whnf))
    exact BF [] (kh (j+1) (by omega) (by omega))
   have ej:j=P+P-1:=by omega
   clear kh;rw[ej];(repeat' ((first|(apply AG<;>intro hc<;>try (exfalso;omega))|apply AD)<;>conv=>whnf))
   refine ⟨.g7 [.agg (QA false (C0 D a) D (P:Int) (D^(P+P-1))),.int .i64 0],?_,u9 _ rfl⟩;(conv=>whnf)
   refine DL (enc:=λ r:List Rat=>[AV.sl false (r.map eQ)]) (λ_=>rfl) rfl Ao.symm ?_;(conv=>whnf)
   exact AZ rfl (aY _ _ _ _ 0)
theorem Xu (N:q9 L) (q q':Bool) (a:List (List Rat)) (n k:Nat) (hs:Sq n a) (ha:Ms k a) (hn:n<=4) (hk:k<=100000) :
  ∃ v,Ev L 306 [.sl q (CX q' a)] v/\((∃ i,i<=6/\KF n a i/\v = .g7 [.int .i64 ((2^i:Nat):Int),.int .i64 0])\/((∀ j,j<=6->D4 (CF n a j)=false)/\v = .g7 [.int .i64 0,.int .i64 14])):=by
 have z0:=hs.l;obtain ⟨v,hS,hv⟩:=Xw N q q' a n k hs ha hn hk;refine Ev.xE N.L2 rfl rfl ?_;(repeat' ((first|(apply AG<;>intro hc<;>try (exfalso;omega))|apply AR|apply AD)<;>conv=>whnf))
 refine BR (λ i=>n-i) (λ(i:Nat)=>i<=n) (λ i=>[(13,.int .i64 i)]) (λ_=>[]) [] [] 0 (by (conv=>whnf);exact ⟨rfl,rfl,rfl⟩) (by omega) ?_;intro i p1 ih;by_cases hi:i<n
 ·obtain ⟨r,hr⟩ : ∃ r,a[i]? = some r:=⟨_,zE (by omega)⟩
  have iz:a[(i:Int).toNat]? = some r:=hr;have bp:=hs.at hr;(repeat' ((first|(apply AG<;>intro hc<;>try (exfalso;omega))|(apply AU;omega)|apply AR|(refine BC (by assumption) ?_ rfl ?_;omega)|apply AD)<;>conv=>whnf))
  exact BF [] (ih (i+1) (by omega) (by omega))
 have ei:i=n:=by omega
 clear ih;rcases hv with ⟨t,h1,h2,rfl⟩|⟨h1,rfl⟩
 ·(repeat' ((first|(apply AG<;>intro hc<;>try (exfalso;omega))|apply AD|refine AE (hS) ?_)<;>conv=>whnf))
  exact ⟨_,AZ rfl (by simp [A4,CW]),Or.inl ⟨t,h1,h2,rfl⟩⟩
 ·(repeat' ((first|(apply AG<;>intro hc<;>try (exfalso;omega))|apply AD|refine AE (hS) ?_)<;>conv=>whnf))
  exact ⟨_,AZ rfl (by simp [A4,CW]),Or.inr ⟨h1,rfl⟩⟩
end Go.c5
