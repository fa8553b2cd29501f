/-
  State-space forms (layer 27), the program: zeros, at, degree, Valid, Controller.
-/
import Derived.Test.YtfnglkabkfmjcaaGreatB10
import Derived.Test.YtfnglkabkfmjcaaGreatB11
import Derived.Test.YtfnglkabkfmjcaaGreatB9
import Derived.Test.YtfnglkabkfmjcaaGreatB4
import Derived.Test.YtfnglkabkfmjcaaGreatB1
import Derived.Test.YtfnglkabkfmjcaaGreatB7
import Derived.Test.YtfnglkabkfmjcaaGreatB5
set_option linter.unusedSimpArgs false
set_option linter.unusedVariables false
set_option linter.unnecessarySimpa false
namespace Go.e8
open F
attribute [local irreducible] AA AF AP AD CB AU AW BA A6 B2 AM BO B8 C8 BN A3 BX B9 AB A8 AJ pw BK BI CJ CK CU CR CI BT CT
variable {L:Lib}
set_option maxHeartbeats 16000000
theorem AjW (N:q7 L) (m:Nat) (hm:m<=65536):aB L 206 [.int .i64 (m:Int)] 3 ((List.replicate m (0:Rat)).map eQ):=by
 have hO:=I2 N.tob7 0 (by omega);refine aB.x N.WT rfl rfl ?_;(repeat' (apply AE<;>conv=>whnf))
 refine EV (enc:=eO) none m rfl rfl (by omega) ?_;(conv=>whnf)
 skip
 refine BQ (λ i=>m-i) (λ(i:Nat)=>i<=m) (λ i=>[(8,.int .i64 i)]) (λ i=>[(6,6,.rw 3 ((EM (List.replicate i 0) m).map eO))]) [] [] 0 (by first|exact (by (conv=>whnf);exact ⟨rfl,rfl,rfl⟩)|(rw[<-YM];exact (by (conv=>whnf);exact ⟨rfl,rfl,rfl⟩))) (by omega) ?_;intro i p1 ih;by_cases hi:i<m
 ·have hl:=XT (l:=List.replicate i (0:Rat)) (m:=m) (by simp;omega)
  have hs:=YN (l:=List.replicate i (0:Rat)) (m:=m) (x:=0) (by simp;omega);rw[List.length_replicate]at hs;(repeat' ((first|(apply AG<;>intro hc<;>try (exfalso;omega))|(apply AZ;omega)|apply AE|refine AC (hO) ?_)<;>conv=>whnf))
  refine FX (enc:=eO) (some 0) rfl (λ e=>by cases e<;>rfl) (by omega) ?_;(conv=>whnf)
  (repeat' ((first|(apply AY;omega)|fail)<;>conv=>whnf))
  rw[hs];rw[show List.replicate i (0:Rat)++[0]=List.replicate (i+1) 0 by rw[List.replicate_succ']];exact BF [] (ih (i+1) (by omega) (by omega))
 obtain rfl:i=m:=by omega
 clear ih;rw[YL (by simp)];(repeat' ((first|(apply AG<;>intro hc<;>try (exfalso;omega))|apply AE)<;>conv=>whnf))
 exact ⟨rfl,rfl,by simp,rfl,IE _⟩
theorem rK (N:q7 L) (q:Bool) (l:List Rat) (i:Int) (k:Nat) (h0:0<=i) (hl:Bs k l) (hk:k<2199023255552) (hn:l.length<=1000000):Ev L 205 [.sl q (l.map eQ),.int .i64 i] (.agg (eQ (l.getD i.toNat 0))):=by
 have hO:=I2 N.tob7 0 (by omega);refine Ev.x N.WR rfl rfl ?_;by_cases hi:i<l.length
 ·obtain ⟨x,hx⟩ : ∃ x,l[i.toNat]? = some x:=⟨_,zE (by omega)⟩
  have hT:=lZ N.tob7 (hl.at hx) hk;rw[rW hx];(repeat' ((first|(apply AG<;>intro hc<;>try (exfalso;omega))|apply AR|(refine A9 (by assumption) ?_ rfl ?_;omega)|apply AE|refine AC (hT) ?_)<;>conv=>whnf))
  exact AX rfl (DJ _)
 ·rw[rV (l:=l) (by omega)]
  (repeat' ((first|(apply AG<;>intro hc<;>try (exfalso;omega))|apply AR|apply AE|refine AC (hO) ?_)<;>conv=>whnf))
  exact AX rfl (DJ _)
theorem Qh (N:q7 L) (q:Bool) (l:List Rat) (k:Nat) (ht:C7 l=l) (hl:Bs k l) (hk:k<2199023255552) (hn:l.length<=1000000):Ev L 204 [.sl q (l.map eQ)] (.int .i64 ((l.length-1:Nat):Int)):=by
 refine Ev.x N.WS rfl rfl ?_;(repeat' ((first|(apply B3;omega)|apply AR|apply AE)<;>conv=>whnf))
 refine G7 ?_;by_cases h2:l.length<=1
 ·(repeat' ((first|(apply AG<;>intro hc<;>try (exfalso;omega))|apply AE)<;>conv=>whnf))
  exact CX (by omega)
 ·obtain ⟨x,hx⟩ : ∃ x,l[l.length-1]? = some x:=⟨_,zE (by omega)⟩
  have gv:l[((l.length:Int)-1).toNat]? = some x:=by rw[show ((l.length:Int)-1).toNat=l.length-1 by omega];exact hx
  have hxn:=AnF ht (by omega);rw[rW hx]at hxn;have hS:=aW N.tob7 (hl.at hx) hk;have hs:=X2 (x:=x);generalize w9 x.num=s at *;have fc:s≠0:=λ h=>hxn (hs.1 h)
  (repeat' ((first|(apply AG<;>intro hc<;>try (exfalso;omega))|(refine A9 (by assumption) ?_ rfl ?_;omega)|apply AE|refine AC (hS) ?_)<;>conv=>whnf))
  exact CX (by omega)
theorem AjS (N:q7 L) (q1 q2:Bool) (B A:List Rat) (k:Nat) (hB:Bs k B) (hA:Bs k A) (hk:k<2199023255552) (lB:B.length<=49) (lA:A.length<=49) (h0:A[0]? = some 1):Ev L 201 [.agg [.sl q1 (B.map eQ),.sl q2 (A.map eQ)]] (.bool true):=by
 have c1:=aO B B.length;have c2:=aO A A.length;have ub:=Rj N q1 B k hB hk (by omega);have uc:=Rj N q2 A k hA hk (by omega);have hO:=I2 N.tob7 1 (by omega);have hC:=Qv N (Bt.one 1) (Bt.one 1) (by omega) (by omega);rw[uZ.2 rfl]at hC;have hAl:0<A.length:=(zS h0).1;have zk:A[(0:Int).toNat]? = some 1:=h0;generalize D7 B B.length=d1 at *;generalize D7 A A.length=d2 at *;refine Ev.x N.WL rfl rfl ?_;(repeat' ((first|(apply AG<;>intro hc<;>try (exfalso;omega))|apply AR|(refine A9 (by assumption) ?_ rfl ?_;omega)|apply AE|refine AC (ub) ?_|refine AC (uc) ?_|refine AC (hO) ?_|refine AC (hC) ?_)<;>conv=>whnf))
 exact GG rfl
theorem AgK (B A:List Rat) (m:Nat):(B7 B A (m+1)).a.take 1=[(List.range (m+1)).map λ k => -(A.getD (k+1) 0)]:=by
 simp [B7,List.range_succ_eq_map]
theorem AgL {B A:List Rat} {n i:Nat} (h1:1<=i) (hi:i<n):(B7 B A n).a[i]? = some (GE n ((i-1:Nat):Int)):=by
 simp only[B7,List.getElem?_map,List.getElem?_range hi,Option.map_some];rw[if_neg (by omega)]
theorem zC {B A:List Rat} {n i:Nat} (hi:i<n):(B7 B A n).c[i]? = some (B.getD (i+1) 0-B.getD 0 0*A.getD (i+1) 0):=by
 simp only[B7,List.getElem?_map,List.getElem?_range hi,Option.map_some]
theorem AgN (B A:List Rat) (m:Nat):(B7 B A (m+1)).c.take 1=[B.getD 1 0-B.getD 0 0*A.getD 1 0]:=by
 rw[List.take_add_one,zC (by omega)];rfl
theorem AgM (B A:List Rat) (n:Nat):(B7 B A n).a.length=n:=by simp [B7]
theorem AgO (B A:List Rat) (n:Nat):(B7 B A n).c.length=n:=by simp [B7]
theorem KD {α:Type} {l:List α} {i:Nat} {x:α} (h:l[i]? = some x):l.take (i+1)=l.take i++[x]:=by
 rw[List.take_add_one,h];rfl
theorem Agk (S:GJ) (e:Int):A0 (.j9 [.agg (eS S),.int .i64 e]):=by
 have:=Agj S
 simp only[A0,CE,true_and,and_true]at this ⊢;exact this
theorem qV (N:q7 L) (w1 w2:Bool) (B A:List Rat) (n k:Nat) (hB:C7 B=B) (hA:C7 A=A) (bB:Bs k B) (bA:Bs k A) (lB:B.length<=17) (lA:A.length<=17) (h0:A[0]? = some 1) (hn:max (B.length-1) (A.length-1)=n) (hk:k<=1000000) :
  Ev L 207 [.agg [.sl w1 (B.map eQ),.sl w2 (A.map eQ)]] (.j9 [.agg (eS (B7 B A n)),.int .i64 0]):=by
 have hV:=AjS N w1 w2 B A k bB bA (by omega) (by omega) (by omega) h0;have ub:=Qh N w1 B k hB bB (by omega) (by omega);have uc:=Qh N w2 A k hA bA (by omega) (by omega);have hO:=I2 N.tob7 1 (by omega);have yg:=rK N w1 B 0 k (by omega) bB (by omega) (by omega);rw[show B.getD (0:Int).toNat 0=B.getD 0 0 from rfl]at yg;have hZ:=AjW N n (by omega);have bB0:Bt k (B.getD 0 0):=gU bB 0;have Er : ∀ i:Nat,Ev L 205 [.sl w1 (B.map eQ),.int .i64 ((i:Int)+1)] (.agg (eQ (B.getD (i+1) 0)))/\Ev L 205 [.sl w2 (A.map eQ),.int .i64 ((i:Int)+1)] (.agg (eQ (A.getD (i+1) 0))) /\
   Ev L 99 [.agg (eQ (B.getD 0 0)),.agg (eQ (A.getD (i+1) 0))] (.agg (eQ (B.getD 0 0*A.getD (i+1) 0)))/\Ev L 150 [.agg (eQ (B.getD (i+1) 0)),.agg (eQ (B.getD 0 0*A.getD (i+1) 0))] (.agg (eQ (B.getD (i+1) 0-B.getD 0 0*A.getD (i+1) 0))) /\
   Ev L 199 [.agg (eQ (A.getD (i+1) 0))] (.agg (eQ (-(A.getD (i+1) 0)))):=λ i=>by
  have e1:=rK N w1 B ((i:Int)+1) k (by omega) bB (by omega) (by omega);have e2:=rK N w2 A ((i:Int)+1) k (by omega) bA (by omega) (by omega);rw[show ((i:Int)+1).toNat=i+1 by omega]at e1 e2;exact ⟨e1,e2,GT N.tob7 bB0 (gU bA _) (by omega) (by omega),gJ N.tow6 (gU bB _) (bB0.mul (gU bA _)) (by omega) (by omega),lR N (gU bA _) (by omega)⟩
 have hd:(B7 B A n).d=B.getD 0 0:=rfl;have cj:=AgM B A n;have o4:=AgO B A n;have rl:eS (B7 B A n)=[.sl false ((B7 B A n).a.map λ r=>[AV.sl false (r.map eQ)]),.sl false ((GE n 0).map eQ),.sl false ((B7 B A n).c.map eQ)]++eQ (B.getD 0 0):=rfl;have bm:=Agk (B7 B A n) 0;rw[rl]at bm ⊢;have hai : ∀ i,1<=i->i<n->(B7 B A n).a[i]? = some (GE n ((i-1:Nat):Int)):=λ i h1 h2=>AgL h1 h2
 have Gm : ∀ i,i<n->(B7 B A n).c[i]? = some (B.getD (i+1) 0-B.getD 0 0*A.getD (i+1) 0):=λ i h=>zC h
 have Jm:0<n->(B7 B A n).a.take 1=[(List.range n).map λ k => -(A.getD (k+1) 0)]:=λ h=>by
  obtain ⟨m,rfl⟩ : ∃ m,n=m+1:=⟨n-1,by omega⟩;exact AgK B A m
 have Gl:0<n->(B7 B A n).c.take 1=[B.getD (0+1) 0-B.getD 0 0*A.getD (0+1) 0]:=λ h=>by
  obtain ⟨m,rfl⟩ : ∃ m,n=m+1:=⟨n-1,by omega⟩;exact AgN B A m
 have w8 : ∀ j,j<n->((List.range n).map λ k => -(A.getD (k+1) 0))[j]? = some (-(A.getD (j+1) 0)):=λ j h=>by
  rw[List.getElem?_map,List.getElem?_range h];rfl
 have Hs:((List.range n).map λ k => -(A.getD (k+1) 0)).length=n:=by simp
 have lq : ∀ j,(GE n j).length=n:=λ j=>vX n j
 generalize (B7 B A n).a=a at *;generalize (B7 B A n).c=c at *;generalize (List.range n).map (λ k => -(A.getD (k+1) 0))=r0 at *;generalize B.getD 0 0=b0 at *;rcases Nat.lt_or_ge (B.length-1) (A.length-1) with m7|me
 ·rw[show A.length-1=n by omega]at uc m7
  refine Ev.x N.OH rfl rfl ?_;(repeat' ((first|(apply AG<;>intro hc<;>try (exfalso;omega))|apply AE|refine AC (hV) ?_|refine AC (ub) ?_|refine AC (uc) ?_|refine AC (yg) ?_)<;>conv=>whnf))
  refine cB (enc:=eQ) n hZ (by simp) ?_;(conv=>whnf)
  by_cases vj:n=0
  ·skip
   exact absurd m7 (by omega)
  ·(repeat' ((first|(apply AG<;>intro hc<;>try (exfalso;omega))|(apply AZ;omega)|refine AC (hO) ?_)<;>conv=>whnf))
   refine cK (enc:=eQ) 0 1 rfl rfl (λ_=>rfl) (by simp;omega) ?_;(conv=>whnf)
   rw[show (List.replicate n (0:Rat)).set 0 1=GE n 0 from oA n 0];skip
   refine G7 ?_;(repeat' ((first|(apply AG<;>intro hc<;>try (exfalso;omega))|apply AE)<;>conv=>whnf))
   refine cB (enc:=eQ) n hZ (by simp) ?_;(conv=>whnf)
   (repeat' ((first|(apply AG<;>intro hc<;>try (exfalso;omega))|fail)<;>conv=>whnf))
   refine BQ (λ j=>n-j) (λ(j:Nat)=>j<=n) (λ j=>[(50,.int .i64 j)]) (λ j=>[(41,41,.rw 3 ((cz r0 n j).map eQ))]) [] [] 0 (by first|exact (by (conv=>whnf);exact ⟨rfl,rfl,rfl⟩)|(rw[zQ];exact (by (conv=>whnf);exact ⟨rfl,rfl,rfl⟩))) (by omega) ?_;intro j p1 ih;have wu:=zN (row:=r0) p1;by_cases hj:j<n
   ·have l9:=zO (w8 j hj) hj
    obtain ⟨f1,f2,f3,f4,f5⟩:=Er j;(repeat' ((first|(apply AG<;>intro hc<;>try (exfalso;omega))|(apply AZ;omega)|(apply AY;omega)|apply AE|refine AC (f2) ?_|refine AC (f5) ?_)<;>conv=>whnf))
    refine FX (enc:=eQ) (-(A.getD (j+1) 0)) rfl (λ_=>rfl) (by omega) ?_;(conv=>whnf)
    (repeat' ((first|(apply AY;omega)|fail)<;>conv=>whnf))
    rw[l9];exact BF [] (ih (j+1) (by omega) (by omega))
   obtain rfl:j=n:=by omega
   clear ih;rw[zL Hs];obtain ⟨f1,f2,f3,f4,f5⟩:=Er 0;(repeat' ((first|(apply AG<;>intro hc<;>try (exfalso;omega))|apply AE)<;>conv=>whnf))
   refine AZ ⟨by rw[List.length_map];omega,by omega⟩ ?_;(conv=>whnf)
   (repeat' ((first|(apply AY;omega)|apply EE|refine AC (yg) ?_|refine AC (f1) ?_|refine AC (f2) ?_|refine AC (f3) ?_|refine AC (f4) ?_)<;>conv=>whnf))
   refine eT (enc:=eQ) (B.getD (0+1) 0-b0*A.getD (0+1) 0) rfl rfl (by omega) ?_;(conv=>whnf)
   (repeat' ((first|(apply AY;omega)|fail)<;>conv=>whnf))
   refine BQ (λ i=>j-i) (λ(i:Nat)=>1<=i/\i<=j) (λ i=>[(37,.int .i64 i)]) (λ i=>[(5,5,.bx ([.row 67 0 1 0 i,.row 28 0 3 0 j,.row 88 0 3 0 i]++eQ b0)),(67,67,.mx (BJ 3 eQ (a.take i))),(88,88,.rw 3 ((c.take i).map eQ))]) [] [] 1 (by first|exact (by (conv=>whnf);exact ⟨rfl,rfl,rfl⟩)|(rw[Jm (by omega),Gl (by omega)];exact (by (conv=>whnf);exact ⟨rfl,rfl,rfl⟩))) (by omega) ?_;intro i ⟨g1,g2⟩ ih;have Cw:(a.take i).length=i:=by rw[List.length_take];omega
   have Da:(c.take i).length=i:=by rw[List.length_take];omega
   by_cases hi:i<j
   ·obtain ⟨f1,f2,f3,f4,f5⟩:=Er i
    have Oo:=KD (hai i g1 hi);have Oq:=KD (Gm i hi);have Cx:(a.take (i+1)).length=i+1:=by rw[List.length_take];omega
    have Db:(c.take (i+1)).length=i+1:=by rw[List.length_take];omega
    have Pj:=lq ((i-1:Nat):Int);(repeat' ((first|(apply AG<;>intro hc<;>try (exfalso;omega))|apply AE)<;>conv=>whnf))
    refine cB (enc:=eQ) j hZ (by simp) ?_;(conv=>whnf)
    (repeat' ((first|(apply AG<;>intro hc<;>try (exfalso;omega))|(apply AZ;omega)|(apply B3;omega)|refine AC (hO) ?_)<;>conv=>whnf))
    refine cK (enc:=eQ) (i-1) 1 (by omega) rfl (λ_=>rfl) (by simp;omega) ?_;(conv=>whnf)
    rw[oA];skip
    refine AZ (by rw[List.length_map];omega) ?_;refine bZ (r:=GE j ((i-1:Nat):Int)) (en:=eQ) Cw.symm (by omega) (by omega) ?_;rw[<-Oo,Cx];(conv=>whnf)
    (repeat' ((first|(apply AY;omega)|apply EE|refine AC (yg) ?_|refine AC (f1) ?_|refine AC (f2) ?_|refine AC (f3) ?_|refine AC (f4) ?_)<;>conv=>whnf))
    refine ES (enc:=eQ) (B.getD (i+1) 0-b0*A.getD (i+1) 0) rfl Da.symm rfl (by omega) (by omega) ?_;rw[<-Oq,Db];(conv=>whnf)
    (repeat' ((first|(apply AY;omega)|fail)<;>conv=>whnf))
    exact BF [(67,1000067),(88,1000088)] (ih (i+1) (by omega) (by omega))
   obtain rfl:i=j:=by omega
   clear ih;rw[List.take_of_length_le (Nat.le_of_eq cj),List.take_of_length_le (Nat.le_of_eq o4)]at *;(repeat' ((first|(apply AG<;>intro hc<;>try (exfalso;omega))|apply AE)<;>conv=>whnf))
   refine KR (λ_=>rfl) rfl cj.symm ?_;(conv=>whnf)
   refine DH (enc:=eQ) (λ_=>rfl) rfl (lq 0).symm ?_;(conv=>whnf)
   refine DH (enc:=eQ) (λ_=>rfl) rfl o4.symm ?_;(conv=>whnf)
   exact AX rfl bm
 ·rw[show B.length-1=n by omega]at ub me
  refine Ev.x N.OH rfl rfl ?_;(repeat' ((first|(apply AG<;>intro hc<;>try (exfalso;omega))|apply AE|refine AC (hV) ?_|refine AC (ub) ?_|refine AC (uc) ?_|refine AC (yg) ?_)<;>conv=>whnf))
  refine cB (enc:=eQ) n hZ (by simp) ?_;(conv=>whnf)
  by_cases vj:n=0
  ·skip
   subst vj;(repeat' ((first|(apply AG<;>intro hc<;>try (exfalso;omega))|fail)<;>conv=>whnf))
   refine G7 ?_;(repeat' ((first|(apply AG<;>intro hc<;>try (exfalso;omega))|(refine DH (λ_=>rfl) rfl ?_ ?_;(first|rfl|simp))|apply AE)<;>conv=>whnf))
   rw[List.eq_nil_of_length_eq_zero cj,List.eq_nil_of_length_eq_zero o4]at *;exact AX rfl bm
  ·(repeat' ((first|(apply AG<;>intro hc<;>try (exfalso;omega))|(apply AZ;omega)|refine AC (hO) ?_)<;>conv=>whnf))
   refine cK (enc:=eQ) 0 1 rfl rfl (λ_=>rfl) (by simp;omega) ?_;(conv=>whnf)
   rw[show (List.replicate n (0:Rat)).set 0 1=GE n 0 from oA n 0];skip
   refine G7 ?_;(repeat' ((first|(apply AG<;>intro hc<;>try (exfalso;omega))|apply AE)<;>conv=>whnf))
   refine cB (enc:=eQ) n hZ (by simp) ?_;(conv=>whnf)
   (repeat' ((first|(apply AG<;>intro hc<;>try (exfalso;omega))|fail)<;>conv=>whnf))
   refine BQ (λ j=>n-j) (λ(j:Nat)=>j<=n) (λ j=>[(50,.int .i64 j)]) (λ j=>[(41,41,.rw 3 ((cz r0 n j).map eQ))]) [] [] 0 (by first|exact (by (conv=>whnf);exact ⟨rfl,rfl,rfl⟩)|(rw[zQ];exact (by (conv=>whnf);exact ⟨rfl,rfl,rfl⟩))) (by omega) ?_;intro j p1 ih;have wu:=zN (row:=r0) p1;by_cases hj:j<n
   ·have l9:=zO (w8 j hj) hj
    obtain ⟨f1,f2,f3,f4,f5⟩:=Er j;(repeat' ((first|(apply AG<;>intro hc<;>try (exfalso;omega))|(apply AZ;omega)|(apply AY;omega)|apply AE|refine AC (f2) ?_|refine AC (f5) ?_)<;>conv=>whnf))
    refine FX (enc:=eQ) (-(A.getD (j+1) 0)) rfl (λ_=>rfl) (by omega) ?_;(conv=>whnf)
    (repeat' ((first|(apply AY;omega)|fail)<;>conv=>whnf))
    rw[l9];exact BF [] (ih (j+1) (by omega) (by omega))
   obtain rfl:j=n:=by omega
   clear ih;rw[zL Hs];obtain ⟨f1,f2,f3,f4,f5⟩:=Er 0;(repeat' ((first|(apply AG<;>intro hc<;>try (exfalso;omega))|apply AE)<;>conv=>whnf))
   refine AZ ⟨by rw[List.length_map];omega,by omega⟩ ?_;(conv=>whnf)
   (repeat' ((first|(apply AY;omega)|apply EE|refine AC (yg) ?_|refine AC (f1) ?_|refine AC (f2) ?_|refine AC (f3) ?_|refine AC (f4) ?_)<;>conv=>whnf))
   refine eT (enc:=eQ) (B.getD (0+1) 0-b0*A.getD (0+1) 0) rfl rfl (by omega) ?_;(conv=>whnf)
   (repeat' ((first|(apply AY;omega)|fail)<;>conv=>whnf))
   refine BQ (λ i=>j-i) (λ(i:Nat)=>1<=i/\i<=j) (λ i=>[(37,.int .i64 i)]) (λ i=>[(5,5,.bx ([.row 67 0 1 0 i,.row 28 0 3 0 j,.row 88 0 3 0 i]++eQ b0)),(67,67,.mx (BJ 3 eQ (a.take i))),(88,88,.rw 3 ((c.take i).map eQ))]) [] [] 1 (by first|exact (by (conv=>whnf);exact ⟨rfl,rfl,rfl⟩)|(rw[Jm (by omega),Gl (by omega)];exact (by (conv=>whnf);exact ⟨rfl,rfl,rfl⟩))) (by omega) ?_;intro i ⟨g1,g2⟩ ih;have Cw:(a.take i).length=i:=by rw[List.length_take];omega
   have Da:(c.take i).length=i:=by rw[List.length_take];omega
   by_cases hi:i<j
   ·obtain ⟨f1,f2,f3,f4,f5⟩:=Er i
    have Oo:=KD (hai i g1 hi);have Oq:=KD (Gm i hi);have Cx:(a.take (i+1)).length=i+1:=by rw[List.length_take];omega
    have Db:(c.take (i+1)).length=i+1:=by rw[List.length_take];omega
    have Pj:=lq ((i-1:Nat):Int);(repeat' ((first|(apply AG<;>intro hc<;>try (exfalso;omega))|apply AE)<;>conv=>whnf))
    refine cB (enc:=eQ) j hZ (by simp) ?_;(conv=>whnf)
    (repeat' ((first|(apply AG<;>intro hc<;>try (exfalso;omega))|(apply AZ;omega)|(apply B3;omega)|refine AC (hO) ?_)<;>conv=>whnf))
    refine cK (enc:=eQ) (i-1) 1 (by omega) rfl (λ_=>rfl) (by simp;omega) ?_;(conv=>whnf)
    rw[oA];skip
    refine AZ (by rw[List.length_map];omega) ?_;refine bZ (r:=GE j ((i-1:Nat):Int)) (en:=eQ) Cw.symm (by omega) (by omega) ?_;rw[<-Oo,Cx];(conv=>whnf)
    (repeat' ((first|(apply AY;omega)|apply EE|refine AC (yg) ?_|refine AC (f1) ?_|refine AC (f2) ?_|refine AC (f3) ?_|refine AC (f4) ?_)<;>conv=>whnf))
    refine ES (enc:=eQ) (B.getD (i+1) 0-b0*A.getD (i+1) 0) rfl Da.symm rfl (by omega) (by omega) ?_;rw[<-Oq,Db];(conv=>whnf)
    (repeat' ((first|(apply AY;omega)|fail)<;>conv=>whnf))
    exact BF [(67,1000067),(88,1000088)] (ih (i+1) (by omega) (by omega))
   obtain rfl:i=j:=by omega
   clear ih;rw[List.take_of_length_le (Nat.le_of_eq cj),List.take_of_length_le (Nat.le_of_eq o4)]at *;(repeat' ((first|(apply AG<;>intro hc<;>try (exfalso;omega))|apply AE)<;>conv=>whnf))
   refine KR (λ_=>rfl) rfl cj.symm ?_;(conv=>whnf)
   refine DH (enc:=eQ) (λ_=>rfl) rfl (lq 0).symm ?_;(conv=>whnf)
   refine DH (enc:=eQ) (λ_=>rfl) rfl o4.symm ?_;(conv=>whnf)
   exact AX rfl bm
theorem yX {a:List (List Rat)} {i j:Nat} {r:List Rat} {x:Rat} (hr:a[j]? = some r) (hx:r[i]? = some x):(DE a i)[j]? = some x:=by
 simp only[DE,List.getElem?_map,hr,Option.map_some,rW hx]
theorem oK {R:List (Option (Nat × List (List AV)))} {e:Nat} {r:Option (Nat × List (List AV))} {K:Option (Nat × List (List AV))->Prop} (h:R[e]? = some r) (hk:K r):BK R e K:=by
 unfold BK;exact ⟨r,h,hk⟩
end Go.e8


namespace Go.e8
open F
attribute [local irreducible] AA AF AP AD CB AU AW BA A6 B2 AM BO B8 C8 BN A3 BX B9 AB A8 AJ pw BK BI CJ CK CU CR CI BT CT
variable {L:Lib}
set_option maxHeartbeats 8000000
end Go.e8



namespace Go.e8
open F
attribute [local irreducible] AA AF AP AD CB AU AW BA A6 B2 AM BO B8 C8 BN A3 BX B9 AB A8 AJ pw BK BI CJ CK CU CR CI BT CT
variable {L:Lib}
set_option maxHeartbeats 8000000
set_option maxRecDepth 8000
end Go.e8

namespace Go.e8
set_option maxHeartbeats 4000000
theorem tM (x:Rat):x.num<0↔x<0:=by rw[<-Int.not_le,Rat.num_nonneg,Rat.not_le]
theorem kF (x:Rat):FY x=if x<0 then -x else x:=by
 unfold FY;by_cases h:x<0
 ·rw[if_pos h,if_pos ((tM x).2 h)]
 ·rw[if_neg h,if_neg (λ e=>h ((tM x).1 e))]
theorem AfX (x y:Rat):FY (x*y)=FY x*FY y:=by
 have pp : ∀ a b:Rat,0<=a->0<=b->0<=a*b:=λ a b=>Rat.mul_nonneg
 rw[kF,kF,kF];by_cases hx:x<0
 ·by_cases hy:y<0
  ·have h:=pp (-x) (-y) (by grind) (by grind)
   rw[if_pos hx,if_pos hy,if_neg (by rw[Rat.not_lt];grind)];grind
  ·have h:=pp (-x) y (by grind) (by grind)
   rw[if_pos hx,if_neg hy];by_cases h0:x*y<0
   ·rw[if_pos h0];grind
   ·rw[if_neg h0];grind
 ·by_cases hy:y<0
  ·have h:=pp x (-y) (by grind) (by grind)
   rw[if_neg hx,if_pos hy];by_cases h0:x*y<0
   ·rw[if_pos h0];grind
   ·rw[if_neg h0];grind
  ·have h:=pp x y (by grind) (by grind)
   rw[if_neg hx,if_neg hy,if_neg (by grind)]
theorem AfY {x:Rat} (h:0<=x):FY x=x:=by
 rw[kF,if_neg (by grind)]
def B4:List Rat->Rat
 | []=>0
 | x::l=>FY x+B4 l
theorem Add (x:Rat) : ∀ l,B4 (l++[x])=B4 l+FY x
 | []=>by simp only[List.nil_append,B4];grind
 | y::l=>by
  simp only[List.cons_append,B4,Add x l];grind
theorem vB {c:Rat} (hc:0<=c) : ∀ l,B4 (l.map (· * c))=B4 l*c
 | []=>by simp only[List.map_nil,B4];grind
 | x::l=>by
  simp only[List.map_cons,B4,vB hc l,AfX,AfY hc];grind
def D6 (a:List (List Rat)):Bool:=a.all λ r=>decide (B4 r<=1/2)
def CF (n:Nat) (a:List (List Rat)):Nat->List (List Rat)
 | 0=>a
 | k+1=>GM (CF n a k) (CF n a k) n
theorem Z3 {n:Nat} {a:List (List Rat)} (h:Sq n a) : ∀ k,Sq n (CF n a k)
 | 0=>h
 | k+1=>Sq.mul (Z3 h k).l _
def C2 (c:Rat) (a:List (List Rat)):List (List Rat):=a.map λ r=>r.map (· * c)
theorem Yr (c:Rat) (a:List (List Rat)):(C2 c a).length=a.length:=by simp [C2]
theorem Ys {n:Nat} (c:Rat) {a:List (List Rat)} (h : ∀ r∈a,r.length=n) : ∀ r∈C2 c a,r.length=n:=λ r hr=>by
 obtain ⟨s,hs,rfl⟩:=List.mem_map.1 hr;rw[List.length_map];exact h s hs
theorem Am9 {n:Nat} (c:Rat) {a:List (List Rat)} (h:Sq n a):Sq n (C2 c a):=⟨by rw[Yr,h.l],Ys c h.r⟩
theorem Am8 {c:Rat} {a:List (List Rat)} {i:Nat} {r:List Rat} (h:a[i]? = some r):(C2 c a)[i]? = some (r.map (· * c)):=by rw[C2,List.getElem?_map,h];rfl
theorem Akn (r:List Rat) (c:Rat) (j:Nat):(r.map (· * c)).getD j 0=r.getD j 0*c:=by
 rw[List.getD_eq_getElem?_getD,List.getD_eq_getElem?_getD,List.getElem?_map];cases r[j]? with
 | none=>simp [Rat.zero_mul]
 | some x=>rfl
theorem Agy (c:Rat) (a:List (List Rat)) (j:Nat):DE (C2 c a) j=(DE a j).map (· * c):=by
 rw[DE,DE,C2,List.map_map,List.map_map];exact List.map_congr_left λ r _=>Akn r c j
theorem Aie (c d:Rat) (u v:List Rat):A4 (u.map (· * c)) (v.map (· * d))=A4 u v*(c*d):=by
 rw[cV,S5,cV,S5];grind
theorem AlU (c d:Rat) (a b:List (List Rat)) (n:Nat):GM (C2 c a) (C2 d b) n=C2 (c*d) (GM a b n):=by
 show (a.map λ r=>r.map (· * c)).map (λ r=>FF r (C2 d b) n)=(a.map λ r=>FF r b n).map (λ r=>r.map (· * (c*d)));rw[List.map_map,List.map_map];refine List.map_congr_left λ r _ => ?_
 show FF (r.map (· * c)) (C2 d b) n=(FF r b n).map (· * (c*d));rw[FF,FF,List.map_map];refine List.map_congr_left λ j _ => ?_
 show A4 (r.map (· * c)) (DE (C2 d b) j)=A4 r (DE b j)*(c*d);rw[Agy,Aie]
def D9 (D:Rat):Nat->Rat
 | 0=>D
 | i+1=>D9 D i*D9 D i
theorem qK {D:Rat} (h:0<D) : ∀ i,0<D9 D i
 | 0=>h
 | i+1=>Rat.mul_pos (qK h i) (qK h i)
theorem Zk (n:Nat) (a:List (List Rat)) (D:Rat) (i:Nat):GM (C2 (D9 D i) (CF n a i)) (C2 (D9 D i) (CF n a i)) n=C2 (D9 D (i+1)) (CF n a (i+1)):=AlU _ _ _ _ _
theorem Uv {s D:Rat} (hD:0<D):s*D+s*D<=D↔s<=1/2:=by
 have e:s*D+s*D=(s+s)*D:=by grind
 have h1:(s+s)*D<=1*D↔s+s<=1:=⟨λ h=>Rat.le_of_mul_le_mul_right h hD,λ h=>Rat.mul_le_mul_of_nonneg_right h (by grind)⟩;rw[Rat.one_mul]at h1;rw[e,h1];constructor<;>intro h<;>grind
theorem AnR {k:Nat} {x:Rat} (hx:Bt k x) {S:Nat} {z:Int} (hz:x*(S:Rat)=(z:Rat)) {M:Nat} (hS:S<=2^M):Wh (k+M) (x*(S:Rat)):=by
 refine ⟨z,hz,?_⟩;have h1:=ZU x;have h2:((z*(x.den:Int):Int):Rat)=((x.num*(S:Int):Int):Rat):=by
  rw[Rat.intCast_mul,Rat.intCast_mul,<-h1,<-hz,Rat.intCast_natCast,Rat.intCast_natCast];grind
 have h3:=congrArg Int.natAbs (Rat.intCast_inj.1 h2);rw[Int.natAbs_mul,Int.natAbs_mul,Int.natAbs_natCast,Int.natAbs_natCast]at h3;have h4:z.natAbs<=z.natAbs*x.den:=Nat.le_mul_of_pos_right _ x.den_pos;rw[Nat.pow_add];exact Nat.le_trans h4 (by rw[h3];exact Nat.mul_le_mul hx.1 hS)
theorem AmW (S:Nat) (x:Rat):((S:Rat)*x).den ∣ x.den:=by
 refine lD (z:=S*x.num) ?_;have h:=ZU x;rw[Rat.intCast_mul,<-h,Rat.intCast_natCast];grind
theorem Vk {k:Nat} : ∀ (l:List Rat) (S:Nat),0<S->Bs k l -> ∃ S':Nat,l.foldl X1 (S:Rat)=(S':Rat)/\0<S'/\S'<=S*2^(l.length*k)/\S ∣ S' /\ ∀ x∈l,∃ z:Int,x*(S':Rat)=(z:Rat)
 | [],S,h,_=>⟨S,rfl,h,by simp,Nat.dvd_refl S,λ x hx=>by cases hx⟩
 | x::l,S,h,hb=>by
  have h1:=AmW S x;have hx:=hb x List.mem_cons_self;have h2:((S:Rat)*x)*((((S:Rat)*x).den:Nat):Rat)=(((S:Rat)*x).num:Rat):=ZU _;have h3:=Nat.le_of_dvd x.den_pos h1;have h4:=((S:Rat)*x).den_pos;generalize ((S:Rat)*x).num=u at h2;obtain ⟨S',e,p1,p2,p3,p4⟩:=Vk l (S*((S:Rat)*x).den) (Nat.mul_pos h h4) λ y hy=>hb y (List.mem_cons_of_mem _ hy)
  refine ⟨S',by rw[List.foldl_cons,<-e,X1,Rat.natCast_mul],p1,?_,Nat.dvd_trans (Nat.dvd_mul_right _ _) p3,λ y hy => ?_⟩
  ·have h5:S*((S:Rat)*x).den<=S*2^k:=Nat.mul_le_mul_left S (Nat.le_trans h3 hx.2)
   have h6:=Nat.mul_le_mul_right (2^(l.length*k)) h5;rw[List.length_cons,Nat.succ_mul,Nat.pow_add,Nat.mul_comm (2^(l.length*k)),<-Nat.mul_assoc];exact Nat.le_trans p2 h6
  ·rcases List.mem_cons.1 hy with rfl|hy
   ·obtain ⟨t,rfl⟩:=p3
    refine ⟨u*(t:Int),?_⟩;rw[Rat.natCast_mul,Rat.natCast_mul,Rat.intCast_mul,<-h2,Rat.intCast_natCast];grind
   ·exact p4 y hy
theorem Vl {k:Nat} {l:List Rat} (hb:Bs k l) : ∃ S:Nat,C1 l=(S:Rat)/\0<S/\S<=2^(l.length*k) /\ ∀ x∈l,∃ z:Int,x*(S:Rat)=(z:Rat):=by
 obtain ⟨S,e,h1,h2,_,h3⟩:=Vk l 1 (by omega) hb;exact ⟨S,e,h1,by rwa [Nat.one_mul]at h2,h3⟩
theorem Ag4 (S:Nat) (x:Rat):((S:Rat)/(x.den:Rat)).den=((S:Rat)*x).den:=by
 have Aa:(x.den:Rat)≠0:=λ e=>by
  have:((x.den:Nat):Rat)=((0:Nat):Rat):=e
  have:=Rat.natCast_inj.1 this
  have:=x.den_pos
  omega
 have hx:=ZU x;refine Nat.dvd_antisymm ?_ ?_
 ·-- e=(S x).den: e S num/d whole,so d ∣ e S
  have h1:=ZU ((S:Rat)*x);generalize hE:((S:Rat)*x).den=E at *;generalize ((S:Rat)*x).num=u at h1;have h2:(((E*S:Nat):Int)*x.num:Int)=u*(x.den:Int):=by
   refine Rat.intCast_inj.1 ?_;rw[Rat.intCast_mul,Rat.intCast_mul,<-hx,<-h1,Rat.intCast_natCast,Rat.intCast_natCast,Rat.natCast_mul];grind
  have h3:x.den ∣ E*S*x.num.natAbs:=by
   have h4:(x.den:Int) ∣ ((E*S:Nat):Int)*x.num:=⟨u,by rw[h2,Int.mul_comm]⟩;have:=Int.natAbs_dvd_natAbs.2 h4
   rw[Int.natAbs_mul,Int.natAbs_natCast,Int.natAbs_natCast]at this;exact this
  obtain ⟨t,ht⟩:=Nat.Coprime.dvd_of_dvd_mul_right (Nat.Coprime.symm x.reduced) h3;refine lD (z:=t) ?_;have h5:((E*S:Nat):Rat)=((x.den*t:Nat):Rat):=congrArg _ ht;rw[Rat.natCast_mul,Rat.natCast_mul]at h5;rw[Rat.div_def,<-Rat.mul_assoc,h5,Rat.intCast_natCast];have:=Rat.mul_inv_cancel _ Aa
  grind
 ·have h1:=ZU ((S:Rat)/(x.den:Rat))
  generalize ((S:Rat)/(x.den:Rat)).num=u at h1;generalize ((S:Rat)/(x.den:Rat)).den=E at *;refine lD (z:=u*x.num) ?_;rw[Rat.intCast_mul,<-h1,<-hx,Rat.div_def];have:=Rat.mul_inv_cancel _ Aa
  grind
theorem AgI {a:List (List Rat)}:D6 a=true ↔ ∀ r∈a,B4 r<=1/2:=by
 rw[D6,List.all_eq_true];exact ⟨λ h r hr=>by simpa using h r hr,λ h r hr=>by simpa using h r hr⟩
theorem Age {k:Nat} {x:Rat} {S:Nat} (hS:0<S) (Cp:S<=2^k) (h:Wh k (x*(S:Rat))):Bt k x:=by
 obtain ⟨z,hz,hk⟩:=h;have h0:(S:Rat)≠0:=λ e=>by
  have:((S:Nat):Rat)=((0:Nat):Rat):=e
  have:=Rat.natCast_inj.1 this
  omega
 have e:x=mkRat z S:=by
  rw[Rat.mkRat_eq_div,<-hz,Rat.div_def,Rat.mul_assoc,Rat.mul_inv_cancel _ h0,Rat.mul_one]
 rw[e];exact Bt.mk hk Cp
theorem Ana {n k:Nat} {a:List (List Rat)} (hs:Sq n a) (hb:Ms k a) : ∃ S:Nat,C1 a.flatten=(S:Rat)/\0<S/\S<=2^(n*n*k) /\ ∀ r∈C2 (S:Rat) a,∀ x∈r,Wh (k+n*n*k) x:=by
 have hl:a.flatten.length=n*n:=by
  have : ∀ (a:List (List Rat)),(∀ r∈a,r.length=n)->a.flatten.length=a.length*n:=by
   intro a;induction a with
   | nil=>intro _;simp
   | cons r a ih =>
    intro h;rw[List.flatten_cons,List.length_append,ih λ x hx=>h x (List.mem_cons_of_mem _ hx),h r List.mem_cons_self,List.length_cons,Nat.succ_mul,Nat.add_comm]
  rw[this a hs.r,hs.l]
 have hbf:Bs k a.flatten:=λ x hx=>by
  obtain ⟨r,hr,hx⟩:=List.mem_flatten.1 hx;exact hb r hr x hx
 obtain ⟨S,e,h1,h2,h3⟩:=Vl hbf;rw[hl]at h2;refine ⟨S,e,h1,h2,λ r hr x hx => ?_⟩;obtain ⟨s,hs,rfl⟩:=List.mem_map.1 hr;obtain ⟨y,hy,rfl⟩:=List.mem_map.1 hx;obtain ⟨z,hz⟩:=h3 y (List.mem_flatten.2 ⟨s,hs,hy⟩);exact AnR (hb s hs y hy) hz h2
def SI (n:Nat) (a:List (List Rat)) (i:Nat):Prop:=D6 (CF n a i)=true /\ ∀ j,j<i->D6 (CF n a j)=false
def FA (k:Nat):Nat->Nat
 | 0=>k
 | i+1=>4*(FA k i+FA k i+1)
theorem Ann {k:Nat} : ∀ i,i<=7->FA k i<=2097152*k+1198372:=by
 intro i hi;have h1:FA k 0=k:=rfl;have e1:FA k 1=4*(FA k 0+FA k 0+1):=rfl;have e2:FA k 2=4*(FA k 1+FA k 1+1):=rfl;have e3:FA k 3=4*(FA k 2+FA k 2+1):=rfl;have e4:FA k 4=4*(FA k 3+FA k 3+1):=rfl;have e5:FA k 5=4*(FA k 4+FA k 4+1):=rfl;have e6:FA k 6=4*(FA k 5+FA k 5+1):=rfl;have e7:FA k 7=4*(FA k 6+FA k 6+1):=rfl;obtain rfl|rfl|rfl|rfl|rfl|rfl|rfl|rfl:i=0\/i=1\/i=2\/i=3\/i=4\/i=5\/i=6\/i=7:=by omega
 all_goals omega
theorem vJ {n k:Nat} {a:List (List Rat)} (hs:Sq n a) (ha:Ms k a) (hn:n<=4) : ∀ i,Ms (FA k i) (CF n a i)
 | 0=>ha
 | i+1=>(Ms.mul (vJ hs ha hn i) (Z3 hs i) (vJ hs ha hn i)).le (Nat.mul_le_mul_right _ hn)
def E4 (k:Nat):Nat->Nat
 | 0=>17*k
 | i+1=>E4 k i+E4 k i+4
theorem AnZ {k:Nat} : ∀ i,i<=7->E4 k i<=2176*k+508:=by
 intro i hi;have h1:E4 k 0=17*k:=rfl;have e1:E4 k 1=E4 k 0+E4 k 0+4:=rfl;have e2:E4 k 2=E4 k 1+E4 k 1+4:=rfl;have e3:E4 k 3=E4 k 2+E4 k 2+4:=rfl;have e4:E4 k 4=E4 k 3+E4 k 3+4:=rfl;have e5:E4 k 5=E4 k 4+E4 k 4+4:=rfl;have e6:E4 k 6=E4 k 5+E4 k 5+4:=rfl;have e7:E4 k 7=E4 k 6+E4 k 6+4:=rfl;obtain rfl|rfl|rfl|rfl|rfl|rfl|rfl|rfl:i=0\/i=1\/i=2\/i=3\/i=4\/i=5\/i=6\/i=7:=by omega
 all_goals omega
theorem AnQ {k l n:Nat} {a b:List (List Rat)} (ha : ∀ r∈a,∀ x∈r,Wh k x) (hl : ∀ r∈a,r.length=n) (hb : ∀ r∈b,∀ x∈r,Wh l x) : ∀ r∈GM a b n,∀ x∈r,Wh (k+l+n) x:=λ r hr x hx=>by
 obtain ⟨s,hs,rfl⟩:=List.mem_map.1 hr;obtain ⟨j,_,rfl⟩:=List.mem_map.1 hx;have hc : ∀ x∈DE b j,Wh l x:=λ x hx=>by
  obtain ⟨t,ht,rfl⟩:=List.mem_map.1 hx;rw[List.getD_eq_getElem?_getD];cases e:t[j]? with
  | none=>exact Wh.zero l
  | some y=>exact hb t ht y (zM e)
 have:=Wh.dot (ha s hs) hc
 rwa [hl s hs]at this
theorem vK {n k:Nat} {a:List (List Rat)} {D:Nat} (hs:Sq n a) (hn:n<=4) (hA : ∀ r∈C2 (D:Rat) a,∀ x∈r,Wh (k+n*n*k) x) : ∀ i,∀ r∈C2 (D9 (D:Rat) i) (CF n a i),∀ x∈r,Wh (E4 k i) x
 | 0=>λ r hr x hx=>(hA r hr x hx).le (by
   show k+n*n*k<=17*k;have:n*n<=4*4:=Nat.mul_le_mul hn hn
   have:=Nat.mul_le_mul_right k this
   omega)
 | i+1=>λ r hr x hx=>by
  rw[<-Zk]at hr;exact (AnQ (vK hs hn hA i) (Ys _ (Z3 hs i).r) (vK hs hn hA i) r hr x hx).le (by simp only[E4];omega)
theorem qL {D M:Nat} (hD:D<=2^M) : ∀ i,Wh (2^i*M) (D9 (D:Rat) i)
 | 0=>⟨(D:Int),by rw[D9,Rat.intCast_natCast],by rw[Nat.pow_zero,Nat.one_mul];simpa using hD⟩
 | i+1=>((qL hD i).mul (qL hD i)).le (by rw[Nat.pow_succ,Nat.mul_two,Nat.add_mul];exact Nat.le_refl _)
theorem AgJ {n i:Nat} {a:List (List Rat)} {D:Rat} (hD:0<D):(∀ r∈C2 (D9 D i) (CF n a i),B4 r+B4 r<=D9 D i)↔D6 (CF n a i)=true:=by
 have hp:=qK hD i;rw[AgI];constructor
 ·intro h r hr
  have:=h _ (List.mem_map.2 ⟨r,hr,rfl⟩)
  rw[vB (by grind)]at this;exact (Uv hp).1 this
 ·intro h r hr
  obtain ⟨s,hs,rfl⟩:=List.mem_map.1 hr;rw[vB (by grind)];exact (Uv hp).2 (h s hs)
theorem iW {k:Nat} : ∀ {l:List Rat},Bs k l->Bt (l.length*(k+1)) (B4 l)
 | [],_=>Bt.zero _
 | x::l,h=>by
  have h1:=iW (l:=l) λ y hy=>h y (List.mem_cons_of_mem _ hy)
  have h2:Bt k (FY x):=by
   unfold FY;split
   ·exact (h x List.mem_cons_self).yd
   ·exact h x List.mem_cons_self
  refine (h2.add h1).le ?_;rw[List.length_cons,Nat.succ_mul];omega
theorem xG {k:Nat} {x:Rat} (h:Bt k x):Bt k (FY x):=by
 unfold FY;split
 ·exact h.yd
 ·exact h
end Go.e8

namespace Go.e8
theorem Wh.of_dvd {k S T:Nat} {x:Rat} (hT:1<=T) (h:Wh k (((S*T:Nat):Rat)*x)) (hz : ∃ z:Int,x*(S:Rat)=(z:Rat)):Wh k (x*(S:Rat)):=by
 obtain ⟨z,hz⟩:=hz;obtain ⟨u,hu,hb⟩:=h;refine ⟨z,hz,?_⟩;have e:((z*(T:Int):Int):Rat)=(u:Rat):=by
  rw[Rat.intCast_mul,<-hz,<-hu,Rat.natCast_mul,Rat.intCast_natCast];grind
 have e2:=Rat.intCast_inj.1 e;have:z.natAbs*T=u.natAbs:=by rw[<-e2,Int.natAbs_mul,Int.natAbs_natCast]
 have h2:z.natAbs<=z.natAbs*T:=Nat.le_mul_of_pos_right _ (by omega);omega
theorem Vn {M k m:Nat} {l:List Rat} (hM:1<=M) (hm:M<=2^m) (h : ∀ x∈l,Wh k ((M:Rat)*x)):Wh m (C1 l) /\ ∀ x∈l,Wh k (x*C1 l):=by
 obtain ⟨S,e,⟨T,hT⟩,hz⟩:=Am0 (M:=M) (l:=l) λ x hx=>by
  obtain ⟨z,hz,_⟩:=h x hx;exact ⟨z,hz⟩
 have Lp:1<=T:=by
  rcases Nat.eq_zero_or_pos T with h0|h0
  ·rw[h0]at hT;omega
  ·exact h0
 refine ⟨⟨(S:Int),by rw[e,Rat.intCast_natCast],?_⟩,λ x hx => ?_⟩
 ·rw[Int.natAbs_natCast]
  have:S<=S*T:=Nat.le_mul_of_pos_right _ (by omega)
  omega
 ·have h1:=h x hx
  rw[hT]at h1;rw[e];exact Wh.of_dvd Lp h1 (by rw[<-e];exact hz x hx)
section
variable {M ky:Nat} {g:List Pt}
end
end Go.e8

namespace Go.e8
set_option maxHeartbeats 8000000
theorem jJ {M k:Nat} {a b:Int} {T:Int} (hb:1<=b) (hT:b*T=(M:Int)) (ha:(T*a).natAbs<=2^k):Wh k ((M:Rat)*Rat.divInt a b):=by
 refine ⟨T*a,?_,ha⟩;have h0:(b:Rat)≠0:=λ e=>by
  have:(b:Rat)=((0:Int):Rat):=e
  have:=Rat.intCast_inj.1 this
  omega
 have h1:=Rat.div_mul_cancel h0 (a:=(a:Rat));rw[Rat.divInt_eq_div,show ((M:Nat):Rat)=((b*T:Int):Rat) by rw[hT,Rat.intCast_natCast],Rat.intCast_mul,Rat.intCast_mul];generalize (a:Rat)/(b:Rat)=q at *;rw[<-h1];grind
theorem Bt.je {k:Nat} {x:Rat} (h:Bt k x):Bt k (-x):=⟨by rw[Rat.neg_num,Int.natAbs_neg];exact h.1,by rw[Rat.neg_den];exact h.2⟩
def fj (n i j:Nat):Nat:=i*n-i*(i-1)/2+j-i
def DN (i m:Nat):List (Nat × Nat):=(List.range m).map λ t=>(i,i+t)
def BC (n:Nat):Nat->List (Nat × Nat)
 | 0=>[]
 | i+1=>BC n i++DN i (n-i)
theorem Vt (i m:Nat):DN i (m+1)=DN i m++[(i,i+m)]:=by
 rw[DN,List.range_succ,List.map_append];rfl
theorem dW (i m:Nat):(DN i m).length=m:=by simp [DN]
theorem Vs {n:Nat} : ∀ {m i j:Nat},(i,j)∈BC n m->i<m/\i<=j/\j<n
 | 0,_,_,h=>by cases h
 | m+1,i,j,h=>by
  rcases List.mem_append.1 h with h|h
  ·have:=Vs h;omega
  ·obtain ⟨t,ht,e⟩:=List.mem_map.1 h
   have:=List.mem_range.1 ht
   have h1:=congrArg Prod.fst e;have h2:=congrArg Prod.snd e;simp only at h1 h2;omega
theorem Y7 {n:Nat} (h:n<=3):n=0\/n=1\/n=2\/n=3:=by omega
theorem Aml {n:Nat} (hn:n<=3):(BC n n).length=n*(n+1)/2:=by
 rcases Y7 hn with rfl|rfl|rfl|rfl<;>rfl
theorem mY {n:Nat} (hn:n<=3):(BC n n).length<=6:=by
 rcases Y7 hn with rfl|rfl|rfl|rfl<;>decide
def gC (A:List (List Rat)) (p q:Nat × Nat):Rat :=
 if q=p then (if q.1=q.2 then -(A2 A p.1 q.1*A2 A p.2 q.2) else -(A2 A p.1 q.1*A2 A p.2 q.2)-A2 A p.1 q.2*A2 A p.2 q.1)+1
 else if q.1=q.2 then -(A2 A p.1 q.1*A2 A p.2 q.2) else -(A2 A p.1 q.1*A2 A p.2 q.2)-A2 A p.1 q.2*A2 A p.2 q.1
def DY (A:List (List Rat)) (n:Nat) (p:Nat × Nat):List Rat:=(BC n n).map (gC A p)
def gM (A:List (List Rat)) (n:Nat):List (List Rat):=(BC n n).map (DY A n)
def bQ (B:List Rat) (i:Nat):Rat:=B.getD i 0
def gR (B:List Rat) (n:Nat):List Rat:=(BC n n).map λ p=>bQ B p.1*bQ B p.2
theorem FC {k:Nat} {A:List (List Rat)} (h:Ms k A) (i j:Nat):Bt k (A2 A i j):=by
 cases e:A[i]? with
 | none =>
  rw[A2,show A.getD i []=[] by rw[List.getD_eq_getElem?_getD,e];rfl];exact Bt.zero k
 | some r =>
  rw[OW e];exact Bs.getD (h.at e) j
theorem Akh {k:Nat} {A:List (List Rat)} (h:Ms k A) (p q:Nat × Nat):Bt (4*k+2) (gC A p q):=by
 have h1:=((FC h p.1 q.1).mul (FC h p.2 q.2)).je;have h2:=(FC h p.1 q.2).mul (FC h p.2 q.1);unfold gC;split<;>split
 ·exact (h1.add (Bt.one 0)).le (by omega)
 ·exact ((h1.ia h2).add (Bt.one 0)).le (by omega)
 ·exact h1.le (by omega)
 ·exact (h1.ia h2).le (by omega)
theorem Aki {k:Nat} {A:List (List Rat)} (h:Ms k A) (n:Nat):Ms (4*k+2) (gM A n):=λ r hr=>by
 obtain ⟨p,_,rfl⟩:=List.mem_map.1 hr;intro x hx;obtain ⟨q,_,rfl⟩:=List.mem_map.1 hx;exact Akh h p q
theorem Akk {k:Nat} {B:List Rat} (h:Bs k B) (n:Nat):Bs (4*k+2) (gR B n):=λ x hx=>by
 obtain ⟨p,_,rfl⟩:=List.mem_map.1 hx;exact ((Bs.getD h p.1).mul (Bs.getD h p.2)).le (by omega)
theorem dK {n:Nat} (A:List (List Rat)):Sq (BC n n).length (gM A n):=⟨by simp [gM],λ r hr=>by
 obtain ⟨p,_,rfl⟩:=List.mem_map.1 hr;simp [DY]⟩
theorem mD (B:List Rat) (n:Nat):(gR B n).length=(BC n n).length:=by simp [gR]
theorem Akj {M k:Nat} {A:List (List Rat)} (h : ∀ i j,Wh k ((M:Rat)*A2 A i j)) (hM:M<=2^k) {n:Nat} : ∀ r∈gM A n,∀ x∈r,Wh (2*k+2) (((M*M:Nat):Rat)*x):=λ r hr x hx=>by
 obtain ⟨p,_,rfl⟩:=List.mem_map.1 hr;obtain ⟨q,_,rfl⟩:=List.mem_map.1 hx;have h1:=(h p.1 q.1).mul (h p.2 q.2);have h2:=(h p.1 q.2).mul (h p.2 q.1);have h3:Wh (k+k) (((M*M:Nat):Rat)):=⟨((M*M:Nat):Int),by rw[Rat.intCast_natCast],by
  rw[Int.natAbs_natCast,Nat.pow_add];exact Nat.mul_le_mul hM hM⟩
 have e1:(M:Rat)*A2 A p.1 q.1*((M:Rat)*A2 A p.2 q.2)=((M*M:Nat):Rat)*(A2 A p.1 q.1*A2 A p.2 q.2):=by rw[Rat.natCast_mul];grind
 have e2:(M:Rat)*A2 A p.1 q.2*((M:Rat)*A2 A p.2 q.1)=((M*M:Nat):Rat)*(A2 A p.1 q.2*A2 A p.2 q.1):=by rw[Rat.natCast_mul];grind
 rw[e1]at h1;rw[e2]at h2;unfold gC;generalize A2 A p.1 q.1*A2 A p.2 q.2=u at *;generalize A2 A p.1 q.2*A2 A p.2 q.1=v at *;generalize ((M*M:Nat):Rat)=w at *;split<;>split
 ·rw[show w*(-u+1) = -(w*u)+w by grind]
  exact (h1.neg.add h3).le (by omega)
 ·rw[show w*(-u-v+1) = -(w*u)-w*v+w by grind]
  exact ((h1.neg.sub h2).add (h3.le (Nat.le_succ _))).le (by omega)
 ·rw[show w * -u = -(w*u) by grind]
  exact h1.neg.le (by omega)
 ·rw[show w*(-u-v) = -(w*u)-w*v by grind]
  exact (h1.neg.sub h2).le (by omega)
def kM (X:List Rat) (n:Nat):List (List Rat):=(List.range n).map λ i=>(List.range n).map λ j=>X.getD (fj n (min i j) (max i j)) 0
theorem gX (X:List Rat) (n:Nat):Sq n (kM X n):=⟨by simp [kM],λ r hr=>by
 obtain ⟨i,_,rfl⟩:=List.mem_map.1 hr;simp⟩
theorem gW (X:List Rat) {n i j:Nat} (hi:i<n) (hj:j<n):A2 (kM X n) i j=X.getD (fj n (min i j) (max i j)) 0:=by
 rw[OW (r:=(List.range n).map λ j=>X.getD (fj n (min i j) (max i j)) 0) (by rw[kM,List.getElem?_map,List.getElem?_range hi];rfl),List.getD_eq_getElem?_getD,List.getElem?_map,List.getElem?_range hj];rfl
theorem Alq (X:List Rat) {n i j:Nat} (hi:i<n) (hj:j<n):A2 (kM X n) i j=A2 (kM X n) j i:=by
 rw[gW X hi hj,gW X hj hi,Nat.min_comm,Nat.max_comm]
theorem sO {k:Nat} {X:List Rat} (h:Bs k X) (n:Nat):Ms k (kM X n):=λ r hr=>by
 obtain ⟨i,_,rfl⟩:=List.mem_map.1 hr;intro x hx;obtain ⟨j,_,rfl⟩:=List.mem_map.1 hx;exact Bs.getD h _
def XD (A K:List (List Rat)) (n i j:Nat):Rat:=B6 (λ a=>B6 (λ b=>A2 A i a*A2 A j b*A2 K a b) n) n
def OT (A:List (List Rat)) (B X:List Rat) (n:Nat):Prop:=X.length=(BC n n).length /\ ∀ (i:Nat) (r:List Rat) (s:Rat),(gM A n)[i]? = some r->(gR B n)[i]? = some s->A4 r X=s
theorem OT.eq {A:List (List Rat)} {B X:List Rat} {n:Nat} (hn:n<=3) (h:OT A B X n) : ∀ i j,i<n->j<n->A2 (kM X n) i j=bQ B i*bQ B j+XD A (kM X n) n i j:=by
 obtain ⟨hl,h⟩:=h;rcases Y7 hn with rfl|rfl|rfl|rfl
 ·intro i j hi;omega
 ·obtain ⟨x0,rfl⟩ : ∃ x0,X=[x0]:=by
   match X,hl with
   | [x0],_=>exact ⟨x0,rfl⟩
  have h0:=h 0 _ _ rfl rfl;simp [A4,DY,gC,BC,DN,List.range_succ]at h0;intro i j hi hj;obtain rfl:i=0:=by omega
  obtain rfl:j=0:=by omega
  simp only[XD,B6,gW _ (show 0<1 by omega) (show 0<1 by omega)];show x0=_+(0+(0+_*x0));grind
 ·obtain ⟨x0,x1,x2,rfl⟩ : ∃ x0 x1 x2,X=[x0,x1,x2]:=by
   match X,hl with
   | [x0,x1,x2],_=>exact ⟨x0,x1,x2,rfl⟩
  have h0:=h 0 _ _ rfl rfl;have h1:=h 1 _ _ rfl rfl;have h2:=h 2 _ _ rfl rfl;simp [A4,DY,gC,BC,DN,List.range_succ]at h0 h1 h2;have key : ∀ i j,i<2->j<2->A2 (kM [x0,x1,x2] 2) i j=if i=0 then (if j=0 then x0 else x1) else (if j=0 then x1 else x2):=by
   intro i j hi hj;rw[gW _ hi hj];obtain rfl|rfl:i=0\/i=1:=by omega
   all_goals obtain rfl|rfl:j=0\/j=1:=by omega
   all_goals rfl
  intro i j hi hj;rw[key i j hi hj];simp only[XD,B6,key 0 0 (by omega) (by omega),key 0 1 (by omega) (by omega),key 1 0 (by omega) (by omega),key 1 1 (by omega) (by omega)];obtain rfl|rfl:i=0\/i=1:=by omega
  all_goals obtain rfl|rfl:j=0\/j=1:=by omega
  all_goals simp
  all_goals grind
 ·obtain ⟨x0,x1,x2,x3,x4,x5,rfl⟩ : ∃ x0 x1 x2 x3 x4 x5,X=[x0,x1,x2,x3,x4,x5]:=by
   match X,hl with
   | [x0,x1,x2,x3,x4,x5],_=>exact ⟨x0,x1,x2,x3,x4,x5,rfl⟩
  have h0:=h 0 _ _ rfl rfl;have h1:=h 1 _ _ rfl rfl;have h2:=h 2 _ _ rfl rfl;have h3:=h 3 _ _ rfl rfl;have h4:=h 4 _ _ rfl rfl;have h5:=h 5 _ _ rfl rfl;clear h hl;simp [A4,DY,gC,BC,DN,List.range_succ]at h0 h1 h2 h3 h4 h5;have key : ∀ i j,i<3->j<3->A2 (kM [x0,x1,x2,x3,x4,x5] 3) i j=if i=0 then (if j=0 then x0 else if j=1 then x1 else x2) else if i=1 then (if j=0 then x1 else if j=1 then x3 else x4) else (if j=0 then x2 else if j=1 then x4 else x5):=by
   intro i j hi hj;rw[gW _ hi hj];obtain rfl|rfl|rfl:i=0\/i=1\/i=2:=by omega
   all_goals obtain rfl|rfl|rfl:j=0\/j=1\/j=2:=by omega
   all_goals rfl
  intro i j hi hj;rw[key i j hi hj];simp only[XD,B6,key 0 0 (by omega) (by omega),key 0 1 (by omega) (by omega),key 0 2 (by omega) (by omega),key 1 0 (by omega) (by omega),key 1 1 (by omega) (by omega),key 1 2 (by omega) (by omega),key 2 0 (by omega) (by omega),key 2 1 (by omega) (by omega),key 2 2 (by omega) (by omega)];obtain rfl|rfl|rfl:i=0\/i=1\/i=2:=by omega
  all_goals obtain rfl|rfl|rfl:j=0\/j=1\/j=2:=by omega
  all_goals simp
  ·clear h1 h2 h3 h4 h5;grind
  ·clear h0 h2 h3 h4 h5;grind
  ·clear h0 h1 h3 h4 h5;grind
  ·clear h0 h2 h3 h4 h5;grind
  ·clear h0 h1 h2 h4 h5;grind
  ·clear h0 h1 h2 h3 h5;grind
  ·clear h0 h1 h3 h4 h5;grind
  ·clear h0 h1 h2 h3 h5;grind
  ·clear h0 h1 h2 h3 h4;grind
theorem OT.uniq {A:List (List Rat)} {B X Y:List Rat} {n:Nat} (hx:OT A B X n) (hy:OT A B Y n) (hs:NS (BC n n).length (gM A n)):X=Y:=by
 have h1:=hs (cM X (Y.map (-1 * ·))) (by simp [cM,hx.1,hy.1]) (λ r hr=>by
  obtain ⟨i,hi⟩:=List.getElem?_of_mem hr;have ak:=(zS hi).1;obtain ⟨s,hs⟩ : ∃ s,(gR B n)[i]? = some s:=⟨_,zE (by rw[mD];rw[(dK A).l]at ak;exact ak)⟩;have e1:=hx.2 i r s hi hs;have e2:=hy.2 i r s hi hs;rw[Ry (by simp [hx.1,hy.1]),S5 r (Y.map _),Sa,S5 Y r,e1,e2];grind)
 refine List.ext_getElem? λ i => ?_
 by_cases hi:i<(BC n n).length
 ·obtain ⟨x,gv⟩ : ∃ x,X[i]? = some x:=⟨_,zE (by rw[hx.1];exact hi)⟩
  obtain ⟨y,vt⟩ : ∃ y,Y[i]? = some y:=⟨_,zE (by rw[hy.1];exact hi)⟩;have h2:=h1 i;rw[List.getD_eq_getElem?_getD,cM,List.getElem?_zipWith,gv,List.getElem?_map,vt]at h2;have h3:x + -1*y=0:=h2;rw[gv,vt,show x=y by grind]
 ·rw[List.getElem?_eq_none (by rw[hx.1];omega),List.getElem?_eq_none (by rw[hy.1];omega)]
def ZX (n:Nat) (row:List (Option Rat)) (k h:Nat) (v:Rat):List (Option Rat):=row.set (fj n (min k h) (max k h)) (some ((((row[fj n (min k h) (max k h)]?).getD none).getD 0)-v))
def JR (n:Nat) (row:List (Option Rat)) (k:Nat) (f:Nat->Rat):Nat->List (Option Rat)
 | 0=>row
 | h+1=>ZX n (JR n row k f h) k h (f h)
def J6 (n:Nat) (row:List (Option Rat)) (f:Nat->Nat->Rat):Nat->List (Option Rat)
 | 0=>row
 | k+1=>JR n (J6 n row f k) k (f k) n
def Y0 (n i j:Nat):List (Option Rat):=(List.replicate (n*(n+1)/2) none).set (fj n i j) (some 1)
theorem uK (n:Nat) (row:List (Option Rat)) (k:Nat) (f:Nat->Rat) : ∀ h,(JR n row k f h).length=row.length
 | 0=>rfl
 | h+1=>by rw[JR,ZX,List.length_set,uK n row k f h]
theorem Wf (n:Nat) (row:List (Option Rat)) (f:Nat->Nat->Rat) : ∀ k,(J6 n row f k).length=row.length
 | 0=>rfl
 | k+1=>by rw[J6,uK,Wf n row f k]
theorem nA {n k h:Nat} (hn:n<=3) (hk:k<n) (hh:h<n):fj n (min k h) (max k h)<n*(n+1)/2:=by
 have h1 : ∀ n,n<4 -> ∀ k,k<n -> ∀ h,h<n->fj n (min k h) (max k h)<n*(n+1)/2:=by decide
 exact h1 n (by omega) k hk h hh
def OB (k:Nat) (row:List (Option Rat)):Prop := ∀ x,some x∈row->Bt k x
theorem OB.at {k:Nat} {row:List (Option Rat)} (h:OB k row) (i:Nat):Bt k (((row[i]?).getD none).getD 0):=by
 cases e:row[i]? with
 | none=>exact Bt.zero k
 | some o =>
  cases o with
  | none=>exact Bt.zero k
  | some x=>exact h x (zM e)
theorem AmE {n k l:Nat} {row:List (Option Rat)} {a b:Nat} {v:Rat} (h:OB k row) (hv:Bt l v):OB (k+l+1) (ZX n row a b v):=λ x hx=>by
 rcases List.mem_or_eq_of_mem_set hx with hx|hx
 ·exact (h x hx).le (by omega)
 ·obtain rfl:=Option.some.inj hx
  exact (h.at _).ia hv
theorem uL {n k l:Nat} {row:List (Option Rat)} {a:Nat} {f:Nat->Rat} (h:OB k row) (hf : ∀ i,Bt l (f i)) : ∀ t,OB (k+t*(l+1)) (JR n row a f t)
 | 0=>by simpa [JR] using h
 | t+1=>by
  have:=AmE (n:=n) (a:=a) (b:=t) (uL (n:=n) (a:=a) h hf t) (hf t)
  intro x hx;exact (this x hx).le (by rw[Nat.succ_mul];omega)
theorem Wg {n k l:Nat} {row:List (Option Rat)} {f:Nat->Nat->Rat} (h:OB k row) (hf : ∀ i j,Bt l (f i j)) : ∀ t,OB (k+t*(n*(l+1))) (J6 n row f t)
 | 0=>by simpa [J6] using h
 | t+1=>by
  have:=uL (n:=n) (a:=t) (Wg (n:=n) h hf t) (hf t) n
  intro x hx;exact (this x hx).le (by rw[Nat.succ_mul];omega)
theorem AmD (n i j:Nat):OB 0 (Y0 n i j):=λ x hx=>by
 rcases List.mem_or_eq_of_mem_set hx with hx|hx
 ·have:=List.eq_of_mem_replicate hx
  cases this
 ·obtain rfl:=Option.some.inj hx
  exact Bt.one 0
theorem AmC {A:List (List Rat)} {n i j:Nat} (hn:n<=3) (gb:i<=j) (hj:j<n):J6 n (Y0 n i j) (λ k h=>A2 A i k*A2 A j h) n=(DY A n (i,j)).map some:=by
 rcases Y7 hn with rfl|rfl|rfl|rfl
 ·omega
 ·obtain rfl:j=0:=by omega
  obtain rfl:i=0:=by omega
  simp [J6,JR,ZX,Y0,DY,gC,BC,DN,fj,List.range_succ];grind
 ·obtain ⟨rfl,rfl⟩|⟨rfl,rfl⟩|⟨rfl,rfl⟩:(i=0/\j=0)\/(i=0/\j=1)\/(i=1/\j=1):=by omega
  all_goals simp [J6,JR,ZX,Y0,DY,gC,BC,DN,fj,List.range_succ]
  all_goals grind
 ·obtain ⟨rfl,rfl⟩|⟨rfl,rfl⟩|⟨rfl,rfl⟩|⟨rfl,rfl⟩|⟨rfl,rfl⟩|⟨rfl,rfl⟩:(i=0/\j=0)\/(i=0/\j=1)\/(i=0/\j=2)\/(i=1/\j=1)\/(i=1/\j=2)\/(i=2/\j=2):=by omega
  all_goals simp [J6,JR,ZX,Y0,DY,gC,BC,DN,fj,List.range_succ]
  all_goals grind
def aY (M:List (List (Option Rat))) (i j:Nat) (x:Rat):List (List (Option Rat)):=(M.set i ((M.getD i []).set j (some x))).set j (((M.set i ((M.getD i []).set j (some x))).getD j []).set i (some x))
def S6 (X:List Rat) (n:Nat):Nat->List (List (Option Rat))
 | 0=>List.replicate n (List.replicate n none)
 | u+1=>aY (S6 X n u) ((BC n n).getD u (0,0)).1 ((BC n n).getD u (0,0)).2 (X.getD u 0)
theorem Akd {n i j:Nat} {M:List (List (Option Rat))} {x:Rat} (h:M.length=n /\ ∀ r∈M,r.length=n) (hi:i<n) (hj:j<n):(aY M i j x).length=n /\ ∀ r∈aY M i j x,r.length=n:=by
 have hg : ∀ (M:List (List (Option Rat))) (i:Nat),M.length=n->(∀ r∈M,r.length=n)->i<n->(M.getD i []).length=n:=λ M i h1 h2 h3=>by
  rw[List.getD_eq_getElem?_getD,zE (by omega)];exact h2 _ (List.getElem_mem _)
 have h1:(M.set i ((M.getD i []).set j (some x))).length=n /\ ∀ r∈M.set i ((M.getD i []).set j (some x)),r.length=n:=⟨by rw[List.length_set,h.1],λ r hr=>by
  rcases List.mem_or_eq_of_mem_set hr with hr|rfl
  ·exact h.2 r hr
  ·rw[List.length_set,hg M i h.1 h.2 hi]⟩
 refine ⟨by rw[aY,List.length_set];exact h1.1,λ r hr => ?_⟩;rcases List.mem_or_eq_of_mem_set hr with hr|rfl
 ·exact h1.2 r hr
 ·rw[List.length_set,hg _ j h1.1 h1.2 hj]
theorem Aka {X:List Rat} {n:Nat} (hn:n<=3) (h:X.length=(BC n n).length):S6 X n (BC n n).length=(kM X n).map (·.map some):=by
 rcases Y7 hn with rfl|rfl|rfl|rfl
 ·rfl
 ·match X,h with
  | [x0],_=>rfl
 ·match X,h with
  | [x0,x1,x2],_=>rfl
 ·match X,h with
  | [x0,x1,x2,x3,x4,x5],_=>rfl
end Go.e8

namespace Go.e8
open F
attribute [local irreducible] AA AF AP AD CB AU AW BA A6 B2 AM BO B8 C8 BN A3 BX B9 AB A8 AJ pw BK BI CJ CK CU CR CI BT CT
attribute [local irreducible] SH
variable {L:Lib}
set_option maxHeartbeats 16000000
set_option maxRecDepth 8000
abbrev ZL (p:Nat × Nat):List AV:=[.int .i64 ((p.1:Nat):Int),.int .i64 ((p.2:Nat):Int)]
theorem Agl (l:List (Nat × Nat)):FH (l.map ZL):=aM (λ p=>by simp only[CE,A0,and_true]) l
theorem Vr {n i:Nat} (hi:i<n):(BC n (i+1)).length=(BC n i).length+(n-i):=by
 show (BC n i++DN i (n-i)).length=_;rw[List.length_append,dW]
theorem mZ (n:Nat) {i:Nat} : ∀ d,(BC n i).length<=(BC n (i+d)).length
 | 0=>Nat.le_refl _
 | d+1=>by
  refine Nat.le_trans (mZ n d) ?_;show _<=(BC n (i+d)++DN (i+d) (n-(i+d))).length;rw[List.length_append];omega
theorem Rk (N:z8 L) (q1 q2 q3:Bool) (A:List (List Rat)) (b:List Rat) (n:Nat) (hA:A.length=n) (hn:n<=3):Ev L 321 [.agg [.sl q1 (CN q2 A),.sl q3 (b.map eQ)]] (.sl false ((BC n n).map ZL)):=by
 have hlen:=mY hn;refine Ev.x N.UJ rfl rfl ?_;(repeat' ((first|apply AR|apply AE)<;>conv=>whnf))
 refine BQ (λ i=>n-i) (λ(i:Nat)=>i<=n) (λ i=>[(9,.int .i64 i),(3,.row 3 0 2 0 (BC n i).length)]) (λ i=>[(3,3,.rw 2 ((BC n i).map ZL))]) [] [] 0 (by (conv=>whnf);exact ⟨rfl,rfl,rfl⟩) (by omega) ?_;intro i p1 ih;have Nk:=mZ n (i:=i) (n-i);rw[show i+(n-i)=n by omega]at Nk;by_cases hi:i<n
 ·have hS:=Vr hi
  have Dp:=mZ n (i:=i+1) (n-(i+1));rw[show i+1+(n-(i+1))=n by omega]at Dp;(repeat' ((first|(apply AG<;>intro hc<;>try (exfalso;omega))|apply AE)<;>conv=>whnf))
  refine BQ (λ t=>n-i-t) (λ(t:Nat)=>t<=n-i) (λ t=>[(5,.int .i64 ((i+t:Nat):Int)),(3,.row 3 0 2 0 ((BC n i).length+t))]) (λ t=>[(3,3,.rw 2 ((BC n i++DN i t).map ZL))]) [] [] 0 (by first|exact (by (conv=>whnf);exact ⟨rfl,rfl,rfl⟩)|(rw[show DN i 0=[] from rfl,List.append_nil];exact (by (conv=>whnf);exact ⟨rfl,rfl,rfl⟩))) (by omega) ?_;intro t p2 th;by_cases ht:t<n-i
  ·have Fe:=Vt i t
   have ja:(BC n i++DN i t).length=(BC n i).length+t:=by rw[List.length_append,dW]
   have Bc:BC n i++DN i (t+1)=(BC n i++DN i t)++[(i,i+t)]:=by rw[Fe,List.append_assoc]
   generalize BC n i++DN i t=R0 at *;(repeat' ((first|(apply AG<;>intro hc<;>try (exfalso;omega))|apply AR|apply EE|apply AE)<;>conv=>whnf))
   refine ES (enc:=ZL) (i,i+t) rfl (by omega) rfl (by omega) (by omega) ?_;(conv=>whnf)
   rw[<-Bc,show (BC n i++DN i (t+1)).length=(BC n i).length+(t+1) by rw[List.length_append,dW]];(repeat' ((first|(apply AY;omega)|fail)<;>conv=>whnf))
   exact BF [(3,25)] (th (t+1) (by omega) (by omega))
  ·have et:t=n-i:=by omega
   clear th;have e1:BC n i++DN i t=BC n (i+1):=by rw[et];rfl
   have e2:(BC n i).length+t=(BC n (i+1)).length:=by rw[hS,et]
   rw[e1,e2];(repeat' ((first|(apply AG<;>intro hc<;>try (exfalso;omega))|(apply AY;omega)|apply AR|apply AE)<;>conv=>whnf))
   exact BF [] (ih (i+1) (by omega) (by omega))
 ·obtain rfl:i=n:=by omega
  clear ih;(repeat' ((first|(apply AG<;>intro hc<;>try (exfalso;omega))|(refine DH (λ_=>rfl) rfl ?_ ?_;(first|rfl|simp))|apply AE)<;>conv=>whnf))
  exact AX rfl (by simp only[A0];exact ⟨trivial,Agl _⟩)
theorem eB {A:List (List Rat)} {n i:Nat} (hA:Sq n A) (hi:i<n) : ∃ r,A[i]? = some r/\r.length=n /\ ∀ j,j<n->r[j]? = some (A2 A i j):=by
 obtain ⟨r,hr⟩ : ∃ r,A[i]? = some r:=⟨_,zE (by rw[hA.l];exact hi)⟩;have hl:=hA.at hr;refine ⟨r,hr,hl,λ j hj => ?_⟩;rw[OW hr,List.getD_eq_getElem?_getD,zE (by omega)];rfl
theorem SR {B:List Rat} {n i:Nat} (hB:B.length=n) (hi:i<n):B[i]? = some (bQ B i):=by
 rw[bQ,List.getD_eq_getElem?_getD,zE (by omega)];rfl
theorem mX {n u i j:Nat} (h:(BC n n)[u]? = some (i,j)):i<n/\j<n/\i<=j:=by
 have:=Vs (zM h)
 omega
theorem Y6 {α:Type} {l:List α} {i:Nat} {x:α} (h:l[i]? = some x):l.take (i+1)=l.take i++[x]:=by rw[List.take_add_one,h];rfl
theorem jL {a b c d:Nat} {K:Bool->Prop} (hk:K (decide ((a,b)=(c,d)))):SH 2 (ZL (a,b)) (ZL (c,d)) K:=by
 unfold SH;refine ⟨[(a:Int),(b:Int)],[(c:Int),(d:Int)],rfl,rfl,rfl,rfl,?_⟩;have:decide ([(a:Int),(b:Int)]=[(c:Int),(d:Int)])=decide ((a,b)=(c,d)):=by
  apply decide_eq_decide.2;simp
  omega
 rw[this];exact hk
theorem AiU (N:z8 L) (q1 q2 q3:Bool) (A:List (List Rat)) (B:List Rat) (n k p1 p2:Nat) (hA:Sq n A) (hB:B.length=n) (ma:Ms k A) (Aw:Bs k B) (hk:k<=1000000) (hn:n<=3) (h1:p1<n) (h2:p2<n) :
  Ev L 322 [.agg [.sl q1 (CN q2 A),.sl q3 (B.map eQ)],.agg (ZL (p1,p2))] (.j9 [.sl false ((DY A n (p1,p2)).map eQ),.agg (eQ (bQ B p1*bQ B p2))]):=by
 have hlen:=mY hn;have hP:=λ q1 q2 q3=>Rk N q1 q2 q3 A B n hA.l hn
 obtain ⟨r1,bn,mf,ov⟩:=eB hA h1;obtain ⟨r2,dd,ja,rf⟩:=eB hA h2;have Du:A[((p1:Nat):Int).toNat]? = some r1:=bn;have Ob:A[((p2:Nat):Int).toNat]? = some r2:=dd;have zt:B[((p1:Nat):Int).toNat]? = some (bQ B p1):=SR hB h1;have Mb:B[((p2:Nat):Int).toNat]? = some (bQ B p2):=SR hB h2;have Le:=GT N.tob7 (Bs.at Aw (SR hB h1)) (Bs.at Aw (SR hB h2)) (by omega) (by omega);refine Ev.x N.UI rfl rfl ?_;(repeat' ((first|apply AR|apply AE|refine AC (hP _ _ _) ?_)<;>conv=>whnf))
 refine BQ (λ u=>(BC n n).length-u) (λ(u:Nat)=>u<=(BC n n).length) (λ u=>[(13,.int .i64 u),(6,.row 6 0 3 0 u)]) (λ u=>[(6,6,.rw 3 (((DY A n (p1,p2)).take u).map eQ))]) [] [] 0 (by (conv=>whnf);exact ⟨rfl,rfl,rfl⟩) (by omega) ?_;intro u u1 uh;have hgl:(DY A n (p1,p2)).length=(BC n n).length:=by simp [DY]
 by_cases hu:u<(BC n n).length
 ·obtain ⟨⟨i,j⟩,gb⟩ : ∃ p,(BC n n)[u]? = some p:=⟨_,zE hu⟩
  have Gz:(BC n n)[((u:Nat):Int).toNat]? = some (i,j):=gb;obtain ⟨g1,g2,g3⟩:=mX gb;have xo:(DY A n (p1,p2))[u]? = some (gC A (p1,p2) (i,j)):=by rw[DY,List.getElem?_map,gb];rfl
  have Fe:=Y6 xo;have cp:((DY A n (p1,p2)).take u).length=u:=by rw[List.length_take];omega
  have a1:r1[((i:Nat):Int).toNat]? = some (A2 A p1 i):=ov i g1;have a2:r2[((j:Nat):Int).toNat]? = some (A2 A p2 j):=rf j g2;have a3:r1[((j:Nat):Int).toNat]? = some (A2 A p1 j):=ov j g2;have a4:r2[((i:Nat):Int).toNat]? = some (A2 A p2 i):=rf i g1;have b1:=FC ma p1 i;have b2:=FC ma p2 j;have b3:=FC ma p1 j;have b4:=FC ma p2 i;have m1:=GT N.tob7 b1 b2 (by omega) (by omega);have n1:=lR N.toq7 (b1.mul b2) (by omega);have c1:=(b1.mul b2).je;have yp:gC A (p1,p2) (i,j)=if (i,j)=(p1,p2) then (if i=j then -(A2 A p1 i*A2 A p2 j) else -(A2 A p1 i*A2 A p2 j)-A2 A p1 j*A2 A p2 i)+1 else if i=j then -(A2 A p1 i*A2 A p2 j) else -(A2 A p1 i*A2 A p2 j)-A2 A p1 j*A2 A p2 i:=rfl
  generalize gC A (p1,p2) (i,j)=gc at *;generalize (DY A n (p1,p2)).take u=R0 at *;have hO:=I2 N.tob7 1 (by omega);by_cases hd:i=j
  ·rw[if_pos hd]at yp
   have ad:=ZM N.tob7 c1 (Bt.one 0) (by omega) (by omega);by_cases he:(i,j)=(p1,p2)
   ·have Ab:decide ((i,j)=(p1,p2))=true:=decide_eq_true he
    rw[if_pos he]at yp;(repeat' ((first|(apply AG<;>intro hc<;>try (exfalso;omega))|(refine A9 (by assumption) ?_ rfl ?_;omega)|apply AE|refine AC (m1) ?_|refine AC (n1) ?_)<;>conv=>whnf))
    ·refine jL ?_
     rw[Ab];(conv=>whnf)
     (repeat' ((first|apply EE|refine AC (hO) ?_|refine AC (ad) ?_)<;>conv=>whnf))
     refine ES (enc:=eQ) _ rfl cp.symm rfl (by omega) (by omega) ?_;rw[<-yp,<-Fe,show ((DY A n (p1,p2)).take (u+1)).length=u+1 by rw[List.length_take];omega];(conv=>whnf)
     (repeat' ((first|(apply AY;omega)|fail)<;>conv=>whnf))
     exact BF [(6,76)] (uh (u+1) (by omega) (by omega))
   ·have Ab:decide ((i,j)=(p1,p2))=false:=decide_eq_false he
    rw[if_neg he]at yp;(repeat' ((first|(apply AG<;>intro hc<;>try (exfalso;omega))|(refine A9 (by assumption) ?_ rfl ?_;omega)|apply AE|refine AC (m1) ?_|refine AC (n1) ?_)<;>conv=>whnf))
    ·refine jL ?_
     rw[Ab];(conv=>whnf)
     (repeat' (apply EE<;>conv=>whnf))
     refine ES (enc:=eQ) _ rfl cp.symm rfl (by omega) (by omega) ?_;rw[<-yp,<-Fe,show ((DY A n (p1,p2)).take (u+1)).length=u+1 by rw[List.length_take];omega];(conv=>whnf)
     (repeat' ((first|(apply AY;omega)|fail)<;>conv=>whnf))
     exact BF [(6,76)] (uh (u+1) (by omega) (by omega))
  ·rw[if_neg hd]at yp
   have m2:=GT N.tob7 b3 b4 (by omega) (by omega);have s2:=gJ N.tow6 c1 (b3.mul b4) (by omega) (by omega);have ad:=ZM N.tob7 (c1.ia (b3.mul b4)) (Bt.one 0) (by omega) (by omega);by_cases he:(i,j)=(p1,p2)
   ·have Ab:decide ((i,j)=(p1,p2))=true:=decide_eq_true he
    rw[if_pos he]at yp;(repeat' ((first|(apply AG<;>intro hc<;>try (exfalso;omega))|(refine A9 (by assumption) ?_ rfl ?_;omega)|apply AE|refine AC (m1) ?_|refine AC (n1) ?_|refine AC (m2) ?_|refine AC (s2) ?_)<;>conv=>whnf))
    ·refine jL ?_
     rw[Ab];(conv=>whnf)
     (repeat' ((first|apply EE|refine AC (hO) ?_|refine AC (ad) ?_)<;>conv=>whnf))
     refine ES (enc:=eQ) _ rfl cp.symm rfl (by omega) (by omega) ?_;rw[<-yp,<-Fe,show ((DY A n (p1,p2)).take (u+1)).length=u+1 by rw[List.length_take];omega];(conv=>whnf)
     (repeat' ((first|(apply AY;omega)|fail)<;>conv=>whnf))
     exact BF [(6,76)] (uh (u+1) (by omega) (by omega))
   ·have Ab:decide ((i,j)=(p1,p2))=false:=decide_eq_false he
    rw[if_neg he]at yp;(repeat' ((first|(apply AG<;>intro hc<;>try (exfalso;omega))|(refine A9 (by assumption) ?_ rfl ?_;omega)|apply AE|refine AC (m1) ?_|refine AC (n1) ?_|refine AC (m2) ?_|refine AC (s2) ?_)<;>conv=>whnf))
    ·refine jL ?_
     rw[Ab];(conv=>whnf)
     (repeat' (apply EE<;>conv=>whnf))
     refine ES (enc:=eQ) _ rfl cp.symm rfl (by omega) (by omega) ?_;rw[<-yp,<-Fe,show ((DY A n (p1,p2)).take (u+1)).length=u+1 by rw[List.length_take];omega];(conv=>whnf)
     (repeat' ((first|(apply AY;omega)|fail)<;>conv=>whnf))
     exact BF [(6,76)] (uh (u+1) (by omega) (by omega))
 ·have eu:u=(BC n n).length:=by omega
  clear uh;rw[List.take_of_length_le (by omega)];(repeat' ((first|(apply AG<;>intro hc<;>try (exfalso;omega))|(refine A9 (by assumption) ?_ rfl ?_;omega)|apply AE|refine AC (Le) ?_)<;>conv=>whnf))
  refine DH (enc:=eQ) (λ_=>rfl) rfl (by omega) ?_;(conv=>whnf)
  refine AX rfl ?_;simp only[A0,CE,and_true,true_and];exact ⟨IE _,CQ _,CQ _⟩
end Go.e8

namespace Go.e8
open F
attribute [local irreducible] AA AF AP AD CB AU AW BA A6 B2 AM BO B8 C8 BN A3 BX B9 AB A8 AJ pw BK BI CJ CK CU CR CI BT CT
variable {L:Lib}
set_option maxHeartbeats 16000000
theorem Amq (x:Rat):qv false (dg x.num.natAbs) (dg x.den)=FY x:=by
 unfold FY;split
 ·rename_i h
  have:=EN (-x)
  rw[Rat.neg_num,Int.natAbs_neg,Rat.neg_den,show decide (-x.num<0)=false from decide_eq_false (by omega)]at this;exact this
 ·rename_i h
  have:=EN x
  rw[show decide (x.num<0)=false from decide_eq_false h]at this;exact this
theorem AiB (N:ew L) {x:Rat} {k:Nat} (hx:Bt k x) (hk:k<2199023255552):Ev L 256 [.agg (eQ x)] (.agg (eQ (FY x))):=by
 have hs:=hx.sm hk;have hT:=rJ N.tob7 false false false (dg x.num.natAbs) (dg x.den) (hs.1.le (by omega)) (hs.2.le (by omega));rw[Amq]at hT;refine Ev.x N.U3 rfl rfl ?_;(repeat' ((first|apply AE|refine AC (hT) ?_)<;>conv=>whnf))
 exact AX rfl (DJ _)
theorem Ain (z:Int):eQ (z:Rat)=[.bool (decide (z<0)),.sl false ((dg z.natAbs).map AL),.sl false [[.int .u32 1]]]:=by
 simp only[eQ,rQ,Rat.num_intCast,Rat.den_intCast,qF];rfl
end Go.e8



namespace Go.e8
end Go.e8

namespace Go.e8
open F
attribute [local irreducible] AA AF AP AD CB AU AW BA A6 B2 AM BO B8 C8 BN A3 BX B9 AB A8 AJ pw BK BI CJ CK CU CR CI BT CT
variable {L:Lib}
set_option maxHeartbeats 16000000
set_option maxRecDepth 8000
theorem Wu {T:List (List Rat)} {n i:Nat} (hl:T.length=n) (hi:i<n):(mz T n i)[i]? = some none:=by
 have ja:(BJ 3 eQ (T.take i)).length=i:=by simp only[BJ,List.length_map,List.length_take];omega
 have:=Akf (z:=(none:Option (Nat × List (List AV)))) (l:=BJ 3 eQ (T.take i)) (m:=n) (by omega)
 rw[ja]at this;exact this
theorem qB {k:Nat} {x:Rat} (h:Bt k x):Bt k ((x.den:Nat):Rat):=by
 refine ⟨?_,?_⟩
 ·rw[Rat.num_natCast,Int.natAbs_natCast];exact h.2
 ·rw[Rat.den_natCast];exact Nat.one_le_two_pow
theorem Ag3 (x:Rat):((x.den:Nat):Rat)≠0:=λ e=>by
 have:((x.den:Nat):Rat)=((0:Nat):Rat):=e
 have:=Rat.natCast_inj.1 this
 have:=x.den_pos
 omega
theorem Ri (N:ae L) {x:Rat} {k:Nat} (hx:Bt k x) (hk:k<2199023255552):Ev L 294 [.agg (eQ x)] (.agg (eQ ((x.den:Nat):Rat))):=by
 have hT:=lZ N.tob7 hx hk;have o4:=DJ ((x.den:Nat):Rat);have e:eQ ((x.den:Nat):Rat)=[.bool false,.sl false ((dg x.den).map AL),.sl false [[.int .u32 1]]]:=by
  rw[<-Rat.intCast_natCast,Ain,Int.natAbs_natCast,show decide (((x.den:Nat):Int)<0)=false by simp]
 rw[e]at o4 ⊢;refine Ev.x N.UT rfl rfl ?_;(repeat' ((first|refine JZ rfl ?_|apply AE|refine AC (hT) ?_)<;>conv=>whnf))
 exact AX rfl o4
theorem Ajf (N:ae L) (q q':Bool) (ls:List (List Rat)) (k:Nat) (hb:Ms k ls) (hl:ls.flatten.length<=64) (xd:ls.length<=1000) (hk:k<=1000000):Ev L 295 [.sl q (CN q' ls)] (.agg (eQ (C1 ls.flatten))):=by
 have hO:=I2 N.tob7 1 (by omega);rw[show ((1:Int):Rat)=1 from rfl]at hO;have key : ∀ (i j:Nat) (r:List Rat) (x:Rat),ls[i]? = some r->r[j]? = some x -> ∃ S:Nat,C1 ((ls.take i).flatten++r.take j)=(S:Rat)/\Bt (64*k) (S:Rat)/\C1 ((ls.take i).flatten++r.take (j+1))=(S:Rat)*(((S:Rat)/((x.den:Nat):Rat)).den:Nat):=by
  intro i j r x hr hx;have dm:=(zS hx).1;have hlen:((ls.take i).flatten++r.take j).length<=64:=by
   have e:ls.flatten=(ls.take i).flatten++(r++(ls.drop (i+1)).flatten):=by
    have h1:=(zS hr);obtain ⟨h1,h2⟩:=h1;conv=>lhs;rw[<-List.take_append_drop i ls,List.flatten_append,List.drop_eq_getElem_cons h1,h2,List.flatten_cons]
   rw[e,List.length_append,List.length_append]at hl;rw[List.length_append,List.length_take];omega
  have zu:Bs k ((ls.take i).flatten++r.take j):=λ y hy=>by
   rcases List.mem_append.1 hy with hy|hy
   ·obtain ⟨s,hs,hy⟩:=List.mem_flatten.1 hy
    exact hb s (List.mem_of_mem_take hs) y hy
   ·exact hb r (zM hr) y (List.mem_of_mem_take hy)
  obtain ⟨S,e,h1,h2,_⟩:=Vl zu;refine ⟨S,e,⟨?_,?_⟩,?_⟩
  ·rw[Rat.num_natCast,Int.natAbs_natCast]
   exact Nat.le_trans h2 (Nat.pow_le_pow_right (by omega) (Nat.mul_le_mul_right k hlen))
  ·rw[Rat.den_natCast];exact Nat.one_le_two_pow
  ·rw[List.take_add_one,hx,Option.toList_some,<-List.append_assoc,Vm,e,X1,Ag4]
 refine Ev.x N.UR rfl rfl ?_;(repeat' ((first|apply AR|apply AE|refine AC (hO) ?_)<;>conv=>whnf))
 refine BQ (λ i=>ls.length-i) (λ(i:Nat)=>i<=ls.length) (λ i=>[(13,.int .i64 i)]) (λ i=>[(3,3,.bx (eQ (C1 (ls.take i).flatten)))]) [] [] 0 (by rw[show C1 (ls.take 0).flatten=1 from rfl];exact (by (conv=>whnf);exact ⟨rfl,rfl,rfl⟩)) (by omega) ?_;intro i p1 ih;by_cases hi:i<ls.length
 ·obtain ⟨r,hr⟩ : ∃ r,ls[i]? = some r:=⟨_,zE hi⟩
  have ka:ls[(i:Int).toNat]? = some r:=hr;have kb:=hb r (zM hr);have dp:r.length<=64:=by
   have e:ls.flatten=(ls.take i).flatten++(r++(ls.drop (i+1)).flatten):=by
    obtain ⟨h1,h2⟩:=zS hr;conv=>lhs;rw[<-List.take_append_drop i ls,List.flatten_append,List.drop_eq_getElem_cons h1,h2,List.flatten_cons]
   rw[e,List.length_append,List.length_append]at hl;omega
  have fo:(ls.take (i+1)).flatten=(ls.take i).flatten++r:=by
   rw[List.take_add_one,hr,List.flatten_append];simp
  (repeat' ((first|(apply AG<;>intro hc<;>try (exfalso;omega))|apply AR|(refine A9 (by assumption) ?_ rfl ?_;omega)|apply AE)<;>conv=>whnf))
  refine BQ (λ j=>r.length-j) (λ(j:Nat)=>j<=r.length) (λ j=>[(19,.int .i64 j)]) (λ j=>[(3,3,.bx (eQ (C1 ((ls.take i).flatten++r.take j))))]) [] [] 0 (by rw[List.take_zero,List.append_nil];exact (by (conv=>whnf);exact ⟨rfl,rfl,rfl⟩)) (by omega) ?_;intro j r1 jh;by_cases hj:j<r.length
  ·obtain ⟨x,hx⟩ : ∃ x,r[j]? = some x:=⟨_,zE hj⟩
   have gv:r[(j:Int).toNat]? = some x:=hx;obtain ⟨S,e,hS,e2⟩:=key i j r x hr hx;have Kg:=kb.at hx;have ub:=Ri N Kg (by omega);have hq:=hS.wj (qB Kg);have hDv:=lN N.tob7 hS (qB Kg) (by omega) (by omega) (Ag3 x);have uc:=Ri N hq (by omega);have hM:=GT N.tob7 hS (qB hq) (by omega) (by omega);rw[<-e2]at hM;rw[e];generalize (S:Rat)/((x.den:Nat):Rat)=y at *;generalize ((x.den:Nat):Rat)=d at *;generalize (S:Rat)=s at *;generalize ((y.den:Nat):Rat)=d2 at *;(repeat' ((first|(apply AG<;>intro hc<;>try (exfalso;omega))|(apply AY;omega)|(refine A9 (by assumption) ?_ rfl ?_;omega)|apply AE|refine AC (ub) ?_|refine AC (hDv) ?_|refine AC (uc) ?_|refine AC (hM) ?_)<;>conv=>whnf))
   exact BF [] (jh (j+1) (by omega) (by omega))
  obtain rfl:j=r.length:=by omega
  clear jh;rw[List.take_of_length_le (Nat.le_refl _),<-fo];(repeat' ((first|(apply AG<;>intro hc<;>try (exfalso;omega))|(apply AY;omega)|apply AE)<;>conv=>whnf))
  exact BF [] (ih (i+1) (by omega) (by omega))
 obtain rfl:i=ls.length:=by omega
 clear ih;rw[List.take_of_length_le (Nat.le_refl _)];(repeat' ((first|(apply AG<;>intro hc<;>try (exfalso;omega))|apply AE)<;>conv=>whnf))
 exact AX rfl (DJ _)
theorem Ajm (N:ae L) (q:Bool) (v:List Rat) (c:Rat) (k l:Nat) (hv:Bs k v) (hc:Bt l c) (hk:k<1099511627776) (hl:l<1099511627776) (hn:v.length<=1000000):Ev L 296 [.sl q (v.map eQ),.agg (eQ c)] (.sl false ((v.map (· * c)).map eQ)):=by
 refine Ev.x N.UX rfl rfl ?_;(repeat' ((first|apply AR|apply AE)<;>conv=>whnf))
 refine EV (enc:=eO) none v.length rfl rfl (by omega) ?_;(conv=>whnf)
 (repeat' (apply AR<;>conv=>whnf))
 refine BQ (λ i=>v.length-i) (λ(i:Nat)=>i<=v.length) (λ i=>[(12,.int .i64 i)]) (λ i=>[(9,9,.rw 3 ((EM ((v.map (· * c)).take i) v.length).map eO))]) [] [] 0 (by first|exact (by (conv=>whnf);exact ⟨rfl,rfl,rfl⟩)|(rw[List.take_zero,<-YM];exact (by (conv=>whnf);exact ⟨rfl,rfl,rfl⟩))) (by omega) ?_;intro i p1 ih;have cp:((v.map (· * c)).take i).length=i:=by rw[List.length_take,List.length_map];omega
 have Hf:=XT (l:=(v.map (· * c)).take i) (m:=v.length) (by omega);by_cases hi:i<v.length
 ·obtain ⟨x,hx⟩ : ∃ x,v[i]? = some x:=⟨_,zE hi⟩
  have gv:v[(i:Int).toNat]? = some x:=hx;have hy:(v.map (· * c))[i]? = some (x*c):=by rw[List.getElem?_map,hx];rfl
  have hs:=YN (l:=(v.map (· * c)).take i) (m:=v.length) (x:=x*c) (by omega);rw[cp,<-KD hy]at hs;have hM:=GT N.tob7 (hv.at hx) hc (by omega) (by omega);generalize EM ((v.map (· * c)).take i) v.length=F0 at *;generalize x*c=y at *;(repeat' ((first|(apply AG<;>intro hc<;>try (exfalso;omega))|(apply AZ;omega)|(refine A9 (by assumption) ?_ rfl ?_;omega)|apply AE|refine AC (hM) ?_)<;>conv=>whnf))
  refine FX (enc:=eO) (some y) rfl (λ e=>by cases e<;>rfl) (by omega) ?_;(conv=>whnf)
  rw[hs];(repeat' ((first|(apply AY;omega)|fail)<;>conv=>whnf))
  exact BF [] (ih (i+1) (by omega) (by omega))
 obtain rfl:i=v.length:=by omega
 clear ih;have fe:(v.map (· * c)).length=v.length:=List.length_map _;rw[List.take_of_length_le (by omega),YL fe];(repeat' ((first|(apply AG<;>intro hc<;>try (exfalso;omega))|(refine DH (λ_=>rfl) rfl ?_ ?_;(first|rfl|simp))|apply AE)<;>conv=>whnf))
 exact AX rfl (by simp only[A0,true_and];exact IE _)
abbrev qQ (q:Bool) (x:Rat):List AV:=rQ q q (decide (x.num<0)) (dg x.num.natAbs) (dg x.den)
theorem AjZ (N:b7 L) (q:Bool) {x:Rat} {k:Nat} (hx:Bt k x) (hk:k<2199023255552):Ev L 97 [.agg (qQ q x)] (.int .i64 (w9 x.num)):=by
 have hs:=hx.sm hk;have:=Qg N (decide (x.num<0)) q q (dg x.num.natAbs) (dg x.den) (hs.1.le (by omega)) (hs.2.le (by omega))
 rwa [EN]at this
theorem Ai7 (N:b7 L) (q:Bool) {x y:Rat} {k l:Nat} (hx:Bt k x) (hy:Bt l y) (hk:k<2199023255552) (hl:l<2199023255552):Ev L 99 [.agg (eQ x),.agg (qQ q y)] (.agg (eQ (x*y))):=by
 have h1:=hx.sm hk;have h2:=hy.sm hl;have:=rI N 68719476736 (by omega) (decide (x.num<0)) (decide (y.num<0)) false false q q (dg x.num.natAbs) (dg x.den) (dg y.num.natAbs) (dg y.den) h1.1 h1.2 h2.1 h2.2
 rwa [EN,EN]at this
theorem Aji (N:ae L) (q1 q2 qb:Bool) (a b:List Rat) (k l:Nat) (hl:a.length=b.length) (ha:Bs k a) (hb:Bs l b) (hn:a.length<=64) (hk:k<=1000000000) (ln:l<=1000000000):Ev L 297 [.sl q1 (a.map eQ),.sl q2 (b.map (qQ qb))] (.agg (eQ (A4 a b))):=by
 have hO:=I2 N.tob7 0 (by omega);rw[show ((0:Int):Rat)=0 from rfl]at hO;refine Ev.x N.UU rfl rfl ?_;(repeat' ((first|apply AR|apply AE|refine AC (hO) ?_)<;>conv=>whnf))
 refine BQ (λ i=>a.length-i) (λ(i:Nat)=>i<=a.length) (λ i=>[(10,.int .i64 i)]) (λ i=>[(5,5,.bx (eQ (A4 (a.take i) (b.take i))))]) [] [] 0 (by rw[show A4 (a.take 0) (b.take 0)=0 from rfl];exact (by (conv=>whnf);exact ⟨rfl,rfl,rfl⟩)) (by omega) ?_;intro i p1 ih;by_cases hi:i<a.length
 ·obtain ⟨x,hx⟩ : ∃ x,a[i]? = some x:=⟨_,zE hi⟩
  obtain ⟨y,hy⟩ : ∃ y,b[i]? = some y:=⟨_,zE (by omega)⟩;have gv:a[(i:Int).toNat]? = some x:=hx;have vt:b[(i:Int).toNat]? = some y:=hy;have yk:=aW N.tob7 (ha.at hx) (by omega);have Cp:=AjZ N.tob7 qb (hb.at hy) (by omega);have hM:=Ai7 N.tob7 qb (ha.at hx) (hb.at hy) (by omega) (by omega);have hd:Bt (64*(k+l+1)) (A4 (a.take i) (b.take i)):=by
   refine ((ha.take i).dot (hb.take i)).le (Nat.mul_le_mul_right _ ?_);rw[List.length_take];omega
  have hA:=ZM N.tob7 hd ((ha.at hx).mul (hb.at hy)) (by omega) (by omega);rw[<-gD hx hy]at hA;have hz:x=0\/y=0->A4 (a.take i) (b.take i)=A4 (a.take (i+1)) (b.take (i+1)):=λ h=>by
   rw[gD hx hy];rcases h with h|h<;>rw[h]<;>grind
  by_cases h1:x=0
  ·have s1:w9 x.num=0:=X2.2 h1
   rw[s1]at yk;rw[hz (Or.inl h1)];clear hA hz hd;(repeat' ((first|(apply AG<;>intro hc<;>try (exfalso;omega))|(apply AY;omega)|(refine A9 (by assumption) ?_ rfl ?_;omega)|apply AE|refine AC (yk) ?_)<;>conv=>whnf))
   exact BF [] (ih (i+1) (by omega) (by omega))
  ·have s1:w9 x.num≠0:=λ h=>h1 (X2.1 h)
   generalize w9 x.num=g1 at *;by_cases h2:y=0
   ·have s2:w9 y.num=0:=X2.2 h2
    rw[s2]at Cp;rw[hz (Or.inr h2)];clear hA hz hd;(repeat' ((first|(apply AG<;>intro hc<;>try (exfalso;omega))|(apply AY;omega)|(refine A9 (by assumption) ?_ rfl ?_;omega)|apply AE|refine AC (yk) ?_|refine AC (Cp) ?_)<;>conv=>whnf))
    exact BF [] (ih (i+1) (by omega) (by omega))
   ·have s2:w9 y.num≠0:=λ h=>h2 (X2.1 h)
    generalize w9 y.num=g2 at *;clear hz hd;generalize A4 (a.take i) (b.take i)=w at *;generalize x*y=p at *;(repeat' ((first|(apply AG<;>intro hc<;>try (exfalso;omega))|(apply AY;omega)|(refine A9 (by assumption) ?_ rfl ?_;omega)|apply AE|refine AC (yk) ?_|refine AC (Cp) ?_|refine AC (hM) ?_|refine AC (hA) ?_)<;>conv=>whnf))
    exact BF [] (ih (i+1) (by omega) (by omega))
 obtain rfl:i=a.length:=by omega
 clear ih;rw[cT rfl];(repeat' ((first|(apply AG<;>intro hc<;>try (exfalso;omega))|apply AE)<;>conv=>whnf))
 exact AX rfl (DJ _)
theorem Ajh (N:ae L) (q1 q2:Bool) (a b:List Rat) (k l:Nat) (hl:a.length=b.length) (ha:Bs k a) (hb:Bs l b) (hn:a.length<=64) (hk:k<=1000000000) (ln:l<=1000000000):Ev L 297 [.sl q1 (a.map eQ),.sl q2 (b.map eQ)] (.agg (eQ (A4 a b))):=Aji N q1 q2 false a b k l hl ha hb hn hk ln
end Go.e8

namespace Go.e8
open F
attribute [local irreducible] AA AF AP AD CB AU AW BA A6 B2 AM BO B8 C8 BN A3 BX B9 AB A8 AJ pw BK BI CJ CK CU CR CI BT CT
variable {L:Lib} (n:Nt)
set_option maxHeartbeats 1000000
end Go.e8

namespace Go.e8
open F
attribute [local irreducible] AA AF AP AD CB AU AW BA A6 B2 AM BO B8 C8 BN A3 BX B9 AB A8 AJ pw BK BI CJ CK CU CR CI BT CT
variable {L:Lib}
set_option maxHeartbeats 4000000
theorem qW (I:o5 L) (N:er L) (c:Wd) (v:Int) (hc:WV c) (hv:FV v):Ev L 175 [.agg (J4 c),.int .i64 v] (.agg (eQ (Rat.divInt v (pw c.f)))):=by
 have hV:=gG c I;rw[decide_eq_true hc]at hV;have aj:=hc;unfold WV at aj;have h1:=iP c.f;have h2:=uB (n:=c.f) (by omega);unfold FV at hv;have hF:=AiH N.tow6 v (pw c.f) hv (by omega) (by omega);refine Ev.x N.TB rfl rfl ?_;(repeat' ((first|(refine cI ?_ (λ_ _ => ?_);omega)|apply AE|refine AC (hV) ?_|refine AC (hF) ?_)<;>conv=>whnf))
 exact AX rfl (DJ _)
end Go.e8

namespace Go.e8
open F
attribute [local irreducible] AA AF AP AD CB AU AW BA A6 B2 AM BO B8 C8 BN A3 BX B9 AB A8 AJ pw BK BI CJ CK CU CR CI BT CT
variable {L:Lib}
variable (b a:List Int) (d c:Wd)
variable {b a d c}
set_option maxHeartbeats 4000000
end Go.e8

namespace Go.e8
open F
attribute [local irreducible] AA AF AP AD CB AU AW BA A6 B2 AM BO B8 C8 BN A3 BX B9 AB A8 AJ pw BK BI CJ CK CU CR CI BT CT
variable {L:Lib}
set_option maxHeartbeats 8000000
end Go.e8

namespace Go.e8
open F
attribute [local irreducible] AA AF AP AD CB AU AW BA A6 B2 AM BO B8 C8 BN A3 BX B9 AB A8 AJ pw BK BI CJ CK CU CR CI BT CT
attribute [local irreducible] SH
variable {L:Lib}
set_option maxHeartbeats 8000000
end Go.e8

namespace Go.e8
open F
attribute [local irreducible] AA AF AP AD CB AU AW BA A6 B2 AM BO B8 C8 BN A3 BX B9 AB A8 AJ pw BK BI CJ CK CU CR CI BT CT
variable {L:Lib}
set_option maxHeartbeats 16000000
set_option maxRecDepth 8000
theorem Yq {l:List Rat} {i:Nat} {x:Rat} (h:l[i]? = some x):B4 (l.take (i+1))=B4 (l.take i)+FY x:=by rw[KD h,Add]
theorem Ajn (N:ae L) (q:Bool) (v:List Rat) (k:Nat) (hv:Bs k v) (hn:v.length<=1000) (hk:k<=1000000000):Ev L 300 [.sl q (v.map eQ)] (.agg (eQ (B4 v))):=by
 have hO:=I2 N.tob7 0 (by omega);rw[show ((0:Int):Rat)=0 from rfl]at hO;refine Ev.x N.UY rfl rfl ?_;(repeat' ((first|apply AR|apply AE|refine AC (hO) ?_)<;>conv=>whnf))
 refine BQ (λ i=>v.length-i) (λ(i:Nat)=>i<=v.length) (λ i=>[(9,.int .i64 i)]) (λ i=>[(3,3,.bx (eQ (B4 (v.take i))))]) [] [] 0 (by rw[show B4 (v.take 0)=0 from rfl];exact (by (conv=>whnf);exact ⟨rfl,rfl,rfl⟩)) (by omega) ?_;intro i p1 ih;by_cases hi:i<v.length
 ·obtain ⟨x,hx⟩ : ∃ x,v[i]? = some x:=⟨_,zE hi⟩
  have gv:v[(i:Int).toNat]? = some x:=hx;have hA:=AiB N.toew (hv.at hx) (by omega);have hz:Bt (1000*(k+1)) (B4 (v.take i)):=(iW (hv.take i)).le (Nat.mul_le_mul_right _ (by rw[List.length_take];omega));have hP:=ZM N.tob7 hz (xG (hv.at hx)) (by omega) (by omega);rw[<-Yq hx]at hP;generalize B4 (v.take i)=w at *;generalize FY x=y at *;(repeat' ((first|(apply AG<;>intro hc<;>try (exfalso;omega))|(apply AY;omega)|(refine A9 (by assumption) ?_ rfl ?_;omega)|apply AE|refine AC (hA) ?_|refine AC (hP) ?_)<;>conv=>whnf))
  exact BF [] (ih (i+1) (by omega) (by omega))
 obtain rfl:i=v.length:=by omega
 clear ih;rw[List.take_of_length_le (Nat.le_refl _)];(repeat' ((first|(apply AG<;>intro hc<;>try (exfalso;omega))|apply AE)<;>conv=>whnf))
 exact AX rfl (DJ _)
theorem uW {x y:Rat}:0<w9 (x-y).num↔y<x:=by
 have h:=uV (x-y).num;have e1:(x-y).num<0↔x<y:=by rw[tM];constructor<;>intro h<;>grind
 have e2:(x-y).num=0↔x=y:=by rw[Rat.num_eq_zero];constructor<;>intro h<;>grind
 rcases h with ⟨h1,h2⟩|⟨h1,h2⟩|⟨h1,h2⟩
 ·have:=e1.1 h2
  rw[h1];constructor
  ·intro h;omega
  ·intro h;grind
 ·have:=e2.1 h2
  rw[h1];constructor
  ·intro h;omega
  ·intro h;grind
 ·have h3 : ¬ x<y:=λ h=>by have:=e1.2 h;omega
  have h4 : ¬ x=y:=λ h=>by have:=e2.2 h;omega
  rw[h1];constructor
  ·intro _;grind
  ·intro _;omega
theorem Ajg (N:ae L) (q q':Bool) (a:List (List Rat)) (D:Rat) (n k l:Nat) (hs:Sq n a) (ha:Ms k a) (hD:Bt l D) (hn:n<=16) (hk:k<=1000000000) (hl:l<=1000000000):Ev L 302 [.sl q (CN q' a),.agg (eQ D)] (.bool (decide (∀ r∈a,B4 r+B4 r<=D))):=by
 have cj:=hs.l;refine Ev.x N.US rfl rfl ?_;(repeat' ((first|apply AR|apply AE)<;>conv=>whnf))
 refine BQ (λ i=>n-i) (λ(i:Nat)=>i<=n /\ ∀ r∈a.take i,B4 r+B4 r<=D) (λ i=>[(10,.int .i64 i)]) (λ_=>[]) [] [] 0 (by (conv=>whnf);exact ⟨rfl,rfl,rfl⟩) ⟨by omega,λ r hr=>by cases hr⟩ ?_;intro i ⟨p1,p2⟩ ih;by_cases hi:i<n
 ·obtain ⟨r,hr⟩ : ∃ r,a[i]? = some r:=⟨_,zE (by omega)⟩
  have ka:a[(i:Int).toNat]? = some r:=hr;have dp:=hs.at hr;have hT:=λ q=>Ajn N q r k (ha.at hr) (by omega) hk
  have hz:Bt (16*(k+1)) (B4 r):=(iW (ha.at hr)).le (Nat.mul_le_mul_right _ (by omega));have hP:=ZM N.tob7 hz hz (by omega) (by omega);have hC:=Qv N.toq7 (hz.add hz) hD (by omega) (by omega);have hg:=uW (x:=B4 r+B4 r) (y:=D);by_cases h:D<B4 r+B4 r
  ·have Ew : ¬ ∀ r∈a,B4 r+B4 r<=D:=λ e=>by
    have:=e r (zM hr)
    grind
   have:=hg.2 h
   rw[decide_eq_false Ew];clear Ew p2 ih hz h hg;generalize w9 (B4 r+B4 r-D).num=g at *;generalize B4 r+B4 r=w at *;generalize B4 r=z at *;(repeat' ((first|(apply AG<;>intro hc<;>try (exfalso;omega))|(refine A9 (by assumption) ?_ rfl ?_;omega)|apply AE|refine AC (hT _) ?_|refine AC (hP) ?_|refine AC (hC) ?_)<;>conv=>whnf))
   exact GG rfl
  ·have Pp : ∀ r∈a.take (i+1),B4 r+B4 r<=D:=λ s hs=>by
    rw[KD hr]at hs;rcases List.mem_append.1 hs with hs|hs
    ·exact p2 s hs
    ·obtain rfl:=List.mem_singleton.1 hs
     grind
   have : ¬ 0<w9 (B4 r+B4 r-D).num:=λ e=>h (hg.1 e)
   clear p2 hz h hg;generalize w9 (B4 r+B4 r-D).num=g at *;generalize B4 r+B4 r=w at *;generalize B4 r=z at *;(repeat' ((first|(apply AG<;>intro hc<;>try (exfalso;omega))|(apply AY;omega)|(refine A9 (by assumption) ?_ rfl ?_;omega)|apply AE|refine AC (hT _) ?_|refine AC (hP) ?_|refine AC (hC) ?_)<;>conv=>whnf))
   exact BF [] (ih (i+1) (by omega) ⟨by omega,Pp⟩)
 obtain rfl:i=n:=by omega
 clear ih;rw[List.take_of_length_le (by omega)]at p2;rw[decide_eq_true p2];(repeat' ((first|(apply AG<;>intro hc<;>try (exfalso;omega))|apply AE)<;>conv=>whnf))
 exact GG rfl
theorem Sv {α:Type} {a b:List α} {j:Nat} {y:α} (hl:a.length=b.length) (hy:a[j]? = some y):(a.take j++b.drop j).set j y=a.take (j+1)++b.drop (j+1):=by
 have h:=(zS hy).1;rw[List.set_append_right _ _ (by rw[List.length_take];omega),List.length_take,Nat.min_eq_left (by omega),Nat.sub_self,List.drop_eq_getElem_cons (by omega),List.set_cons_zero,List.take_add_one,hy,Option.toList_some,List.append_assoc];rfl
def HR (Q:List (List Rat)) (n j:Nat):List (Option (Nat × List (List AV))):=Q.map λ r=>some (3,(EM (r.take j) n).map eO)
def O2 (Q:List (List Rat)) (n j m:Nat):List (Option (Nat × List (List AV))):=(HR Q n (j+1)).take m++(HR Q n j).drop m
theorem YG (Q:List (List Rat)) (n j:Nat):(HR Q n j).length=Q.length:=by simp [HR]
theorem AgF (Q:List (List Rat)) (n j:Nat):O2 Q n j 0=HR Q n j:=by simp [O2]
theorem AgC (Q:List (List Rat)) (n j:Nat):O2 Q n j Q.length=HR Q n (j+1):=by
 rw[O2,List.take_of_length_le (by rw[YG];exact Nat.le_refl _),List.drop_of_length_le (by rw[YG];exact Nat.le_refl _),List.append_nil]
theorem AgD {Q:List (List Rat)} {n j m:Nat} (h:m<=Q.length):(O2 Q n j m).length=Q.length:=by
 rw[O2,List.length_append,List.length_take,List.length_drop,YG,YG];omega
theorem AgB {Q:List (List Rat)} {n j m:Nat} {r:List Rat} (hr:Q[m]? = some r):(O2 Q n j m)[m]? = some (some (3,(EM (r.take j) n).map eO)):=by
 have h:=(zS hr).1;rw[O2,List.getElem?_append_right (by rw[List.length_take,YG];omega),List.length_take,YG,Nat.min_eq_left (by omega),Nat.sub_self,List.getElem?_drop,Nat.add_zero,HR,List.getElem?_map,hr];rfl
theorem AgE {Q:List (List Rat)} {n j m:Nat} {r:List Rat} (hr:Q[m]? = some r):(O2 Q n j m).set m (some (3,(EM (r.take (j+1)) n).map eO))=O2 Q n j (m+1):=by
 have h:=(zS hr).1;exact Sv (by rw[YG,YG]) (by rw[HR,List.getElem?_map,hr];rfl)
theorem AeX {R:List (Option (Nat × List (List AV)))} {i z:Nat} {es:List (List AV)} {K:Nat->List (List AV)->Prop} (h:R[i]? = some (some (z,es))) (hk:K z es):BI R i K:=by
 unfold BI;exact ⟨z,es,h,hk⟩
theorem AgG {Q:List (List Rat)} {n:Nat} (h : ∀ r∈Q,r.length=n):HR Q n n=BJ 3 eQ Q:=by
 refine List.map_congr_left λ r hr => ?_
 have:=h r hr
 rw[List.take_of_length_le (by omega),YL this]
theorem Ajk (N:ae L) (q q':Bool) (a:List (List Rat)) (n k:Nat) (hs:Sq n a) (ha:Ms k a) (hn:n<=4) (hk:k<=1000000000):Ev L 299 [.sl q (CN q' a)] (.sl false (eM (GM a a n))):=by
 have cj:=hs.l;have Az:Sq n (GM a a n):=Sq.mul hs.l a;have Ga : ∀ (i:Nat) (r:List Rat),a[i]? = some r->(GM a a n)[i]? = some (FF r a n):=λ i r hr=>by rw[GM,List.getElem?_map,hr];rfl
 have Cn : ∀ (j:Nat) (r:List Rat),j<n->(FF r a n)[j]? = some (A4 r (DE a j)):=λ j r hj=>by rw[FF,List.getElem?_map,List.getElem?_range hj];rfl
 have Ay:=Az.l;have Em:=Az.r;generalize GM a a n=Q at *;refine Ev.x N.UV rfl rfl ?_;(repeat' ((first|apply AR|apply AE)<;>conv=>whnf))
 unfold CU;refine ⟨⟨by omega,by omega,by simp only[EB];omega,by omega⟩,?_⟩;rw[Int.toNat_natCast,cj];(conv=>whnf)
 skip
 have nn:=YG Q n 0;have Ej : ∀ i,i<n->(HR Q n 0)[i]? = some (some (3,(List.replicate n (none:Option Rat)).map eO)):=λ i hi=>by
  rw[HR,List.getElem?_map,zE (by omega),Option.map_some,List.take_zero,YM]
 refine BQ (λ i=>n-i) (λ(i:Nat)=>i<=n) (λ i=>[(15,.int .i64 i)]) (λ i=>[(13,13,.mx (fz none ((HR Q n 0).take i) n))]) [] [] 0 (by first|exact (by (conv=>whnf);exact ⟨rfl,rfl,rfl⟩)|(rw[List.take_zero,show fz (none:Option (Nat × List (List AV))) [] n=List.replicate n none by simp [fz]];exact (by (conv=>whnf);exact ⟨rfl,rfl,rfl⟩))) (by omega) ?_;intro i p1 ih;have cp:((HR Q n 0).take i).length=i:=by rw[List.length_take];omega
 have fo:=dI (z:=(none:Option (Nat × List (List AV)))) (l:=(HR Q n 0).take i) (m:=n) (by omega);by_cases hi:i<n
 ·have js:=dJ (z:=(none:Option (Nat × List (List AV)))) (x:=some (3,(List.replicate n (none:Option Rat)).map eO)) (l:=(HR Q n 0).take i) (m:=n) (by omega)
  rw[cp,<-KD (Ej i hi)]at js;generalize fz (none:Option (Nat × List (List AV))) ((HR Q n 0).take i) n=J at *;(repeat' ((first|(apply AG<;>intro hc<;>try (exfalso;omega))|apply AE)<;>conv=>whnf))
  refine EV (enc:=eO) none n rfl rfl (by omega) ?_;(conv=>whnf)
  (repeat' ((first|(apply AZ;omega)|fail)<;>conv=>whnf))
  unfold AP CJ;refine ⟨by simp,by omega,?_⟩;(conv=>whnf)
  rw[show 0+((i:Int)).toNat=i by omega,js];(repeat' ((first|(apply AY;omega)|fail)<;>conv=>whnf))
  exact BF [] (ih (i+1) (by omega) (by omega))
 have ei:i=n:=by omega
 clear ih fo;rw[ei,List.take_of_length_le (by omega),dH (by omega)];(repeat' ((first|(apply AG<;>intro hc<;>try (exfalso;omega))|apply AE)<;>conv=>whnf))
 refine EV (enc:=eO) none n rfl rfl (by omega) ?_;(conv=>whnf)
 skip
 refine F8 (λ j _=>n-j) (λ(j:Nat) (C:List (Option Rat))=>j<=n/\C.length=n) (λ j _=>[(27,.int .i64 j)]) (λ j C=>[(25,25,.rw 3 (C.map eO)),(13,13,.mx (HR Q n j))]) [] [] 0 (List.replicate n none) (by (conv=>whnf);exact ⟨rfl,rfl,rfl⟩) ⟨by omega,by simp⟩ ?_;intro j C ⟨r1,r2⟩ jh;by_cases hj:j<n
 ·have o4:(DE a j).length=n:=by rw[Agx];exact cj
  have Me:((DE a j).map some).length=n:=by rw[List.length_map];exact o4
  (repeat' ((first|(apply AG<;>intro hc<;>try (exfalso;omega))|apply AE)<;>conv=>whnf))
  refine BQ (λ i=>n-i) (λ(i:Nat)=>i<=n) (λ i=>[(31,.int .i64 i)]) (λ i=>[(25,25,.rw 3 ((((DE a j).map some).take i++C.drop i).map eO))]) [] [] 0 (by rw[List.take_zero,List.drop_zero,List.nil_append];exact (by (conv=>whnf);exact ⟨rfl,rfl,rfl⟩)) (by omega) ?_;intro i2 s1 kh;have fe:(((DE a j).map some).take i2++C.drop i2).length=n:=by rw[List.length_append,List.length_take,List.length_drop];omega
  by_cases uj:i2<n
  ·obtain ⟨r,hr⟩ : ∃ r,a[i2]? = some r:=⟨_,zE (by omega)⟩
   have dp:=hs.at hr;obtain ⟨x,hx⟩ : ∃ x,r[j]? = some x:=⟨_,zE (by omega)⟩;have ka:a[(i2:Int).toNat]? = some r:=hr;have gv:r[(j:Int).toNat]? = some x:=hx;have hcx:((DE a j).map some)[i2]? = some (some x):=by
    rw[List.getElem?_map,DE,List.getElem?_map,hr];simp only[Option.map_some,List.getD_eq_getElem?_getD,hx,Option.getD_some]
   have l9:=Sv (a:=(DE a j).map some) (b:=C) (by omega) hcx;generalize ((DE a j).map some).take i2++C.drop i2=W at *;(repeat' ((first|(apply AG<;>intro hc<;>try (exfalso;omega))|(apply AZ;omega)|(refine A9 (by assumption) ?_ rfl ?_;omega)|apply AE)<;>conv=>whnf))
   refine FX (enc:=eO) (some x) rfl (λ e=>by cases e<;>rfl) (by omega) ?_;(conv=>whnf)
   rw[l9];(repeat' ((first|(apply AY;omega)|fail)<;>conv=>whnf))
   exact BF [] (kh (i2+1) (by omega) (by omega))
  obtain rfl:i2=n:=by omega
  clear kh fe;rw[List.take_of_length_le (by omega),List.drop_of_length_le (by omega),List.append_nil,show ((DE a j).map some).map eO=(DE a j).map eQ by rw[List.map_map];rfl];(repeat' ((first|(apply AG<;>intro hc<;>try (exfalso;omega))|apply AE)<;>conv=>whnf))
  refine BQ (λ i=>i2-i) (λ(i:Nat)=>i<=i2) (λ i=>[(46,.int .i64 i)]) (λ i=>[(13,13,.mx (O2 Q i2 j i))]) [] [] 0 (by rw[AgF];exact (by (conv=>whnf);exact ⟨rfl,rfl,rfl⟩)) (by omega) ?_;intro i3 s2 lh;have fe:=AgD (Q:=Q) (n:=i2) (j:=j) (m:=i3) (by omega);by_cases Ad:i3<i2
  ·obtain ⟨r,hr⟩ : ∃ r,a[i3]? = some r:=⟨_,zE (by omega)⟩
   have dp:=hs.at hr;have ka:a[(i3:Int).toNat]? = some r:=hr;have hq:=Ga i3 r hr;have ib:=AgB (n:=i2) (j:=j) hq;have rn:=AgE (n:=i2) (j:=j) hq;have hxx:=Cn j r hj;have yu:(FF r a i2).length=i2:=Em _ (zM hq);have Kb:((FF r a i2).take j).length=j:=by rw[List.length_take];omega
   have js:=YN (l:=(FF r a i2).take j) (m:=i2) (x:=A4 r (DE a j)) (by omega);rw[Kb,<-KD hxx]at js;have fo:=XT (l:=(FF r a i2).take j) (m:=i2) (by omega);rw[<-js]at rn;have hD:=λ q q'=>Ajh N q q' r (DE a j) k k (by omega) (ha.at hr) (Ms.Iy ha j) (by omega) hk hk
   clear hq hxx js Kb yu;generalize EM ((FF r a i2).take j) i2=W at *;generalize A4 r (DE a j)=y at *;generalize O2 Q i2 j i3=R0 at *;(repeat' ((first|(apply AG<;>intro hc<;>try (exfalso;omega))|(apply AZ;omega)|apply AE)<;>conv=>whnf))
   refine oK (r:=some (3,W.map eO)) (by rw[Nat.zero_add,Int.toNat_natCast];exact ib) ?_;(conv=>whnf)
   (repeat' ((first|(refine A9 (by assumption) ?_ rfl ?_;omega)|fail)<;>conv=>whnf))
   refine DH (enc:=eQ) (λ_=>rfl) rfl o4.symm ?_;(conv=>whnf)
   (repeat' (refine AC (hD _ _) ?_<;>conv=>whnf))
   refine AZ (by rw[List.length_map];omega) ?_;(conv=>whnf)
   skip
   refine AeX (z:=3) (es:=W.map eO) (by rw[Nat.zero_add,Int.toNat_natCast];exact ib) ?_;(conv=>whnf)
   refine FX (enc:=eO) (some y) rfl (λ e=>by cases e<;>rfl) (by omega) ?_;(conv=>whnf)
   unfold CK;refine ⟨by rw[List.length_map,List.length_map,List.length_set],?_⟩;rw[show 0+((i3:Int)).toNat=i3 by omega,rn];(conv=>whnf)
   (repeat' ((first|(apply AY;omega)|fail)<;>conv=>whnf))
   exact BF [] (lh (i3+1) (by omega) (by omega))
  obtain rfl:i3=i2:=by omega
  clear lh fe;have Bg:=AgC Q i3 j;rw[Ay]at Bg;rw[Bg];(repeat' ((first|(apply AG<;>intro hc<;>try (exfalso;omega))|(apply AY;omega)|apply AE)<;>conv=>whnf))
  rw[show (DE a j).map eQ=((DE a j).map some).map eO by rw[List.map_map];rfl];exact BF [] (jh (j+1) ((DE a j).map some) (by omega) ⟨by omega,by rw[List.length_map];exact o4⟩)
 have ej:j=n:=by omega
 clear jh;rw[ej,AgG Em];(repeat' ((first|(apply AG<;>intro hc<;>try (exfalso;omega))|apply AE)<;>conv=>whnf))
 refine KR (λ_=>rfl) rfl (by omega) ?_;(conv=>whnf)
 exact AX rfl (yE Q)
abbrev ZK (q:Bool) (R:List (List Rat)) (D:Rat) (p:Int) (T:Rat):List AV:=[.sl false (CN q R)]++eQ D++[.int .i64 p]++eQ T
theorem pL (R:List (List Rat)) (D:Rat) (p:Int) (T:Rat) (e:Int):A0 (.j9 [.agg (ZK false R D p T),.int .i64 e]):=by
 have h1:=pM R;have h2:=DJ D;have h3:=DJ T;simp only[A0,CE,true_and,and_true,ZK,List.cons_append,List.nil_append]at h1 h2 h3 ⊢;exact ⟨h1,h2.1,h2.2,h3.1,h3.2⟩
theorem tV {i:Nat} (h:i<=6):2^i<=64/\(2^i=64->i=6)/\1<=2^i:=by
 obtain rfl|rfl|rfl|rfl|rfl|rfl|rfl:i=0\/i=1\/i=2\/i=3\/i=4\/i=5\/i=6:=by omega
 all_goals decide
theorem Vv {D:Rat} {d:Nat} (h:Bt d D) : ∀ j:Nat,Bt (j*d) (D^j)
 | 0=>by rw[Rat.pow_zero];exact Bt.one _
 | j+1=>by
  rw[Rat.pow_succ];exact ((Vv h j).mul h).le (by rw[Nat.succ_mul];omega)
theorem Al0 {S M:Nat} (h:S<=2^M):Bt M (S:Rat):=by
 refine ⟨?_,?_⟩
 ·rw[Rat.num_natCast,Int.natAbs_natCast];exact h
 ·rw[Rat.den_natCast];exact Nat.one_le_two_pow
theorem Al1 {S:Nat} (h:0<S):(0:Rat)<(S:Rat):=by
 have:=Rat.natCast_lt_natCast.2 h
 exact this
theorem Ajl (N:ae L) (q q':Bool) (a:List (List Rat)) (n k:Nat) (hs:Sq n a) (ha:Ms k a) (hn:n<=4) (hk:k<=100000) :
  ∃ v,Ev L 303 [.sl q (CN q' a)] v/\((∃ i,i<=6/\SI n a i/\v = .j9 [.agg (ZK false (C2 (C1 a.flatten) a) (C1 a.flatten) ((2^i:Nat):Int) (C1 a.flatten^(2^i+2^i-1))),.int .i64 0]) \/
   ((∀ j,j<=6->D6 (CF n a j)=false)/\v = .j9 [.agg [.sl false [],.bool false,.sl false [],.sl false [],.int .i64 0,.bool false,.sl false [],.sl false []],.int .i64 14])):=by
 have cj:=hs.l;have hnn:n*n<=4*4:=Nat.mul_le_mul hn hn;have hnk:n*n*k<=16*k:=Nat.mul_le_mul_right k hnn;have fo:a.flatten.length<=64:=by
  have : ∀ (a:List (List Rat)),(∀ r∈a,r.length=n)->a.flatten.length=a.length*n:=by
   intro a;induction a with
   | nil=>intro _;simp
   | cons r a ih =>
    intro h;rw[List.flatten_cons,List.length_append,ih λ x hx=>h x (List.mem_cons_of_mem _ hx),h r List.mem_cons_self,List.length_cons,Nat.succ_mul,Nat.add_comm]
  rw[this a hs.r,cj];omega
 have yh:=Ajf N q q' a k ha fo (by omega) (by omega);have hO:=I2 N.tob7 1 (by omega);rw[show ((1:Int):Rat)=1 from rfl]at hO;obtain ⟨D0,eD,d1,d2,d3⟩:=Ana hs ha;have Kv:Bt (16*k) (D0:Rat):=Al0 (Nat.le_trans d2 (Nat.pow_le_pow_right (by omega) hnk));have hDp:(0:Rat)<(D0:Rat):=Al1 d1;have hDN:=qL (Nat.le_trans d2 (Nat.pow_le_pow_right (by omega) hnk));have hRW:=vK hs hn d3;rw[eD]at yh ⊢;generalize (D0:Rat)=D at *;clear eD d1 d2 d3;have Cu:(C2 D a).length=n:=by rw[Yr];exact cj
 have Lt : ∀ (i:Nat) (r:List Rat),a[i]? = some r->(C2 D a)[i]? = some (r.map (· * D)):=λ i r hr=>Am8 hr
 have gn : ∀ i,Sq n (C2 (D9 D i) (CF n a i)):=λ i=>Am9 _ (Z3 hs i)
 have uo : ∀ i,i<=6->Ms 300000000 (C2 (D9 D i) (CF n a i)):=λ i hi r hr x hx=>((hRW i r hr x hx).le (by have:=AnZ (k:=k) i (by omega);omega)).bt
 have dz : ∀ i,i<=6->Bt 300000000 (D9 D i):=λ i hi=>((hDN i).le (by
  have:=(tV hi).1
  have:=Nat.mul_le_mul_right (16*k) this
  omega)).bt
 have hCt:=λ(i:Nat) (q q':Bool) (hi:i<=6)=>Ajg N q q' (C2 (D9 D i) (CF n a i)) (D9 D i) n 300000000 300000000 (gn i) (uo i hi) (dz i hi) (by omega) (by omega) (by omega)
 have Ge:=λ(i:Nat) (q q':Bool) (hi:i<=6)=>Ajk N q q' (C2 (D9 D i) (CF n a i)) n 300000000 (gn i) (uo i hi) hn (by omega)
 have hMD:=λ(i:Nat) (hi:i<=6)=>GT N.tob7 (dz i hi) (dz i hi) (by omega) (by omega)
 have l9 : ∀ i,GM (C2 (D9 D i) (CF n a i)) (C2 (D9 D i) (CF n a i)) n=C2 (D9 D (i+1)) (CF n a (i+1)):=λ i=>Zk n a D i
 have Gm : ∀ i,(∀ r∈C2 (D9 D i) (CF n a i),B4 r+B4 r<=D9 D i)↔D6 (CF n a i)=true:=λ i=>AgJ hDp
 have hLs:=λ(j:Nat) (hj:j<=128)=>GT N.tob7 (Vv Kv j) Kv (show j*(16*k)<2199023255552 by
  have:=Nat.mul_le_mul_right (16*k) hj
  omega) (by omega)
 have Gq : ∀ (i:Nat) (q q':Bool),i<=6->Ev L 302 [.sl q (CN q' (C2 (D9 D i) (CF n a i))),.agg (eQ (D9 D i))] (.bool (D6 (CF n a i))):=λ i q q' hi=>by
  have:=hCt i q q' hi
  rwa [show decide (∀ r∈C2 (D9 D i) (CF n a i),B4 r+B4 r<=D9 D i)=D6 (CF n a i) by rw[Bool.eq_iff_iff,decide_eq_true_iff];exact Gm i]at this
 have Gd : ∀ (i:Nat) (q q':Bool),i<=6->Ev L 299 [.sl q (CN q' (C2 (D9 D i) (CF n a i)))] (.sl false (eM (C2 (D9 D (i+1)) (CF n a (i+1))))):=λ i q q' hi=>by
  have:=Ge i q q' hi
  rwa [l9]at this
 have fm : ∀ i,i<=6->Ev L 99 [.agg (eQ (D9 D i)),.agg (eQ (D9 D i))] (.agg (eQ (D9 D (i+1)))):=hMD;have Lb : ∀ j:Nat,j<=128->Ev L 99 [.agg (eQ (D^j)),.agg (eQ D)] (.agg (eQ (D^(j+1)))):=λ j hj=>by
  have:=hLs j hj
  rwa [<-Rat.pow_succ]at this
 have Kt : ∀ q q':Bool,Ev L 302 [.sl q (CN q' (C2 D a)),.agg (eQ D)] (.bool (D6 (CF n a 0))):=λ q q'=>Gq 0 q q' (by omega)
 have Ba : ∀ q q':Bool,Ev L 299 [.sl q (CN q' (C2 D a))] (.sl false (eM (C2 (D9 D 1) (CF n a 1)))):=λ q q'=>Gd 0 q q' (by omega)
 have Lc:Ev L 99 [.agg (eQ D),.agg (eQ D)] (.agg (eQ (D9 D 1))):=fm 0 (by omega);clear hCt Ge hMD hLs l9 Gm uo dz gn hRW hDN;refine Ev.xE N.UW rfl rfl ?_;by_cases h0:n=0
 ·obtain rfl:a=[]:=List.length_eq_zero_iff.1 (by omega)
  have hb:D6 (CF n [] 0)=true:=rfl;have td:=Kt false false;rw[hb]at td;have hC2:Ev L 302 [.sl false [],.agg (eQ D)] (.bool true):=td;have Jc:=Lb 0 (by omega);rw[Rat.pow_zero]at Jc;(repeat' ((first|apply AR|apply AE|refine AC (yh) ?_|refine AC (hO) ?_)<;>conv=>whnf))
  refine G7 ?_;(repeat' ((first|(apply AG<;>intro hc<;>try (exfalso;omega))|apply AE)<;>conv=>whnf))
  refine G7 ?_;(repeat' ((first|(apply B3;omega)|(apply FN;omega)|apply AE|refine AC (hC2) ?_)<;>conv=>whnf))
  refine G7 ?_;(repeat' ((first|(apply AG<;>intro hc<;>try (exfalso;omega))|(apply AY;omega)|apply AE|refine AC (Jc) ?_)<;>conv=>whnf))
  refine G7 ?_;(repeat' ((first|(apply AG<;>intro hc<;>try (exfalso;omega))|apply AE)<;>conv=>whnf))
  refine ⟨.j9 [.agg (ZK false [] D 1 (D^1)),.int .i64 0],?_,Or.inl ⟨0,by omega,⟨rfl,λ j hj=>absurd hj (by omega)⟩,rfl⟩⟩;exact AX rfl (pL [] D 1 (D^1) 0)
 (repeat' ((first|apply AR|apply AE|refine AC (yh) ?_|refine AC (hO) ?_)<;>conv=>whnf))
 refine F8 (λ i _=>n-i) (λ(i:Nat) (fl:Bool)=>i<=n/\fl=decide (i=0)) (λ i _=>[(15,.int .i64 i)]) (λ i fl=>bif fl then [] else [(4,4,.bx ([.row 1000 0 1 0 i]++eQ D++[.int .i64 1]++eQ 1)),(1000,26,.rw 1 (((C2 D a).take i).map λ r=>[AV.sl false (r.map eQ)]))]) [] [] 0 true (by (conv=>whnf);exact ⟨rfl,rfl,rfl⟩) ⟨by omega,rfl⟩ ?_;intro i fl ⟨p1,p2⟩ ih;have dp:((C2 D a).take i).length=i:=by rw[List.length_take];omega
 by_cases hi:i<n
 ·obtain ⟨r,hr⟩ : ∃ r,a[i]? = some r:=⟨_,zE (by omega)⟩
  have ka:a[(i:Int).toNat]? = some r:=hr;have il:=hs.at hr;have hTm:=λ q=>Ajm N q r D k (16*k) (ha.at hr) Kv (by omega) (by omega) (by omega)
  have ib:=Lt i r hr;generalize r.map (· * D)=w at *;cases fl
  ·have tl:i≠0:=by simpa using p2.symm
   (repeat' ((first|(apply AG<;>intro hc<;>try (exfalso;omega))|(refine A9 (by assumption) ?_ rfl ?_;omega)|apply EE|apply AE|refine AC (hTm _) ?_)<;>conv=>whnf))
   refine ES (l:=(C2 D a).take i) (z:=1) (bytes:=24) (enc:=λ r:List Rat=>[AV.sl false (r.map eQ)]) w rfl dp.symm rfl (by omega) (by omega) ?_;(conv=>whnf)
   (repeat' ((first|(apply AY;omega)|fail)<;>conv=>whnf))
   rw[<-KD ib,show ((C2 D a).take (i+1)).length=i+1 by rw[List.length_take];omega];exact BF [(1000,26)] (ih (i+1) false (by omega) ⟨by omega,by simp⟩)
  ·have tl:i=0:=by simpa using p2.symm
   subst tl;(repeat' ((first|(apply AG<;>intro hc<;>try (exfalso;omega))|(refine A9 (by assumption) ?_ rfl ?_;omega)|apply EE|apply AE|refine AC (hTm _) ?_)<;>conv=>whnf))
   refine eT (enc:=λ r:List Rat=>[AV.sl false (r.map eQ)]) w rfl rfl (by omega) ?_;(conv=>whnf)
   (repeat' ((first|(apply AY;omega)|fail)<;>conv=>whnf))
   rw[show [w]=(C2 D a).take (0+1) by rw[KD ib];rfl];exact BF [(1000,26)] (ih 1 false (by omega) ⟨by omega,by simp⟩)
 have ei:i=n:=by omega
 obtain rfl:fl=false:=by rw[p2];simp;omega
 clear ih p2 dp;rw[ei,List.take_of_length_le (by omega)];(repeat' ((first|(apply AG<;>intro hc<;>try (exfalso;omega))|apply AE)<;>conv=>whnf))
 refine F8 (λ i _=>7-i) (λ(i:Nat) (fl:Bool)=>i<=6/\(fl=true->i=0) /\ ∀ j,j<i->D6 (CF n a j)=false) (λ i fl=>[(7,bif fl then .row 1000 0 1 0 n else .sl false (eM (C2 (D9 D i) (CF n a i))))]) (λ i _=>[(8,8,.bx (eQ (D9 D i))),(4,4,.bx ([.row 1000 0 1 0 n]++eQ D++[.int .i64 ((2^i:Nat):Int)]++eQ 1))]) [] [] 0 true (by (conv=>whnf);exact ⟨rfl,rfl,rfl⟩) ⟨by omega,λ_=>rfl,λ j hj=>absurd hj (by omega)⟩ ?_;intro i fl ⟨s1,s2,s3⟩ jh;obtain ⟨g1,g2,g3⟩:=tV s1;have Ey:((2^(i+1):Nat):Int)=((2^i:Nat):Int)*2:=by rw[Nat.pow_succ];omega
 have Gt:=λ q q'=>Gq i q q' s1
 have hsi:=λ q q'=>Gd i q q' s1
 have Nk:=fm i s1;cases hb:D6 (CF n a i)
 ·rw[hb]at Gt
  by_cases h6:i=6
  ·have e64:((2^i:Nat):Int)=64:=by rw[h6];rfl
   have mc : ∀ j,j<=6->D6 (CF n a j)=false:=λ j hj=>by
    by_cases h:j=6
    ·rw[h,<-h6];exact hb
    ·exact s3 j (by omega)
   cases fl
   ·rw[e64]
    (repeat' ((first|(apply AG<;>intro hc<;>try (exfalso;omega))|apply AE|refine AC (Gt _ _) ?_)<;>conv=>whnf))
    exact ⟨_,AX rfl (by simp [A0,CE,FH]),Or.inr ⟨mc,rfl⟩⟩
   ·exact absurd (s2 rfl) (by omega)
  ·have AzZ:((2^i:Nat):Int)≠64:=λ e=>h6 (g2 (by omega))
   have jn : ∀ j,j<i+1->D6 (CF n a j)=false:=λ j hj=>by
    by_cases h:j=i
    ·rw[h];exact hb
    ·exact s3 j (by omega)
   cases fl
   ·generalize 2^i=P at *
    (repeat' ((first|(apply AG<;>intro hc<;>try (exfalso;omega))|(apply FN;omega)|apply AE|refine AC (Gt _ _) ?_|refine AC (hsi _ _) ?_|refine AC (Nk) ?_)<;>conv=>whnf))
    rw[<-Ey];exact BF [] (jh (i+1) false (by omega) ⟨by omega,(λ h=>by cases h),jn⟩)
   ·obtain rfl:=s2 rfl
    have td:=Kt;rw[hb]at td;generalize 2^0=P at *;(repeat' (apply AE<;>conv=>whnf))
    refine DH (enc:=λ r:List Rat=>[AV.sl false (r.map eQ)]) (λ_=>rfl) rfl Cu.symm ?_;(conv=>whnf)
    (repeat' ((first|(apply AG<;>intro hc<;>try (exfalso;omega))|refine AC (td _ _) ?_)<;>conv=>whnf))
    refine DH (enc:=λ r:List Rat=>[AV.sl false (r.map eQ)]) (λ_=>rfl) rfl Cu.symm ?_;(conv=>whnf)
    (repeat' ((first|(apply FN;omega)|refine AC (Ba _ _) ?_|refine AC (Lc) ?_)<;>conv=>whnf))
    rw[<-Ey];exact BF [] (jh (0+1) false (by omega) ⟨by omega,(λ h=>by cases h),jn⟩)
 ·rw[hb]at Gt
  have nm:SI n a i:=⟨hb,s3⟩;have bm : ∀ r:AV,r = .j9 [.agg (ZK false (C2 D a) D ((2^i:Nat):Int) (D^(2^i+2^i-1))),.int .i64 0]->((∃ i,i<=6/\SI n a i/\r = .j9 [.agg (ZK false (C2 D a) D ((2^i:Nat):Int) (D^(2^i+2^i-1))),.int .i64 0])\/((∀ j,j<=6->D6 (CF n a j)=false)/\r = .j9 [.agg [.sl false [],.bool false,.sl false [],.sl false [],.int .i64 0,.bool false,.sl false [],.sl false []],.int .i64 14])):=λ r hr=>Or.inl ⟨i,s1,nm,hr⟩
  clear Ey jh;generalize 2^i=P at *;cases fl
  ·(repeat' ((first|(apply B3;omega)|(apply FN;omega)|apply AE|refine AC (Gt _ _) ?_)<;>conv=>whnf))
   refine BQ (λ j=>P+P-1-j) (λ(j:Nat)=>j<=P+P-1) (λ j=>[(54,.int .i64 j)]) (λ j=>[(4,4,.bx ([.row 1000 0 1 0 n]++eQ D++[.int .i64 (P:Int)]++eQ (D^j)))]) [] [] 0 (by rw[Rat.pow_zero];exact (by (conv=>whnf);exact ⟨rfl,rfl,rfl⟩)) (by omega) ?_;intro j t1 kh;by_cases hj:j<P+P-1
   ·have hl:=Lb j (by omega)
    (repeat' ((first|(apply AG<;>intro hc<;>try (exfalso;omega))|(apply AY;omega)|apply AE|refine AC (hl) ?_)<;>conv=>whnf))
    exact BF [] (kh (j+1) (by omega) (by omega))
   have ej:j=P+P-1:=by omega
   clear kh;rw[ej];(repeat' ((first|(apply AG<;>intro hc<;>try (exfalso;omega))|apply AE)<;>conv=>whnf))
   refine ⟨.j9 [.agg (ZK false (C2 D a) D (P:Int) (D^(P+P-1))),.int .i64 0],?_,bm _ rfl⟩;(conv=>whnf)
   refine DH (enc:=λ r:List Rat=>[AV.sl false (r.map eQ)]) (λ_=>rfl) rfl Cu.symm ?_;(conv=>whnf)
   exact AX rfl (pL _ _ _ _ 0)
  ·obtain rfl:=s2 rfl
   have td:=Kt;rw[hb]at td;(repeat' (apply AE<;>conv=>whnf))
   refine DH (enc:=λ r:List Rat=>[AV.sl false (r.map eQ)]) (λ_=>rfl) rfl Cu.symm ?_;(conv=>whnf)
   (repeat' ((first|(apply B3;omega)|(apply FN;omega)|refine AC (td _ _) ?_)<;>conv=>whnf))
   refine BQ (λ j=>P+P-1-j) (λ(j:Nat)=>j<=P+P-1) (λ j=>[(54,.int .i64 j)]) (λ j=>[(4,4,.bx ([.row 1000 0 1 0 n]++eQ D++[.int .i64 (P:Int)]++eQ (D^j)))]) [] [] 0 (by rw[Rat.pow_zero];exact (by (conv=>whnf);exact ⟨rfl,rfl,rfl⟩)) (by omega) ?_;intro j t1 kh;by_cases hj:j<P+P-1
   ·have hl:=Lb j (by omega)
    (repeat' ((first|(apply AG<;>intro hc<;>try (exfalso;omega))|(apply AY;omega)|apply AE|refine AC (hl) ?_)<;>conv=>whnf))
    exact BF [] (kh (j+1) (by omega) (by omega))
   have ej:j=P+P-1:=by omega
   clear kh;rw[ej];(repeat' ((first|(apply AG<;>intro hc<;>try (exfalso;omega))|apply AE)<;>conv=>whnf))
   refine ⟨.j9 [.agg (ZK false (C2 D a) D (P:Int) (D^(P+P-1))),.int .i64 0],?_,bm _ rfl⟩;(conv=>whnf)
   refine DH (enc:=λ r:List Rat=>[AV.sl false (r.map eQ)]) (λ_=>rfl) rfl Cu.symm ?_;(conv=>whnf)
   exact AX rfl (pL _ _ _ _ 0)
theorem Ajj (N:ae L) (q q':Bool) (a:List (List Rat)) (n k:Nat) (hs:Sq n a) (ha:Ms k a) (hn:n<=4) (hk:k<=100000) :
  ∃ v,Ev L 306 [.sl q (CN q' a)] v/\((∃ i,i<=6/\SI n a i/\v = .j9 [.int .i64 ((2^i:Nat):Int),.int .i64 0])\/((∀ j,j<=6->D6 (CF n a j)=false)/\v = .j9 [.int .i64 0,.int .i64 14])):=by
 have cj:=hs.l;obtain ⟨v,hS,hv⟩:=Ajl N q q' a n k hs ha hn hk;refine Ev.xE N.UQ rfl rfl ?_;(repeat' ((first|(apply AG<;>intro hc<;>try (exfalso;omega))|apply AR|apply AE)<;>conv=>whnf))
 refine BQ (λ i=>n-i) (λ(i:Nat)=>i<=n) (λ i=>[(13,.int .i64 i)]) (λ_=>[]) [] [] 0 (by (conv=>whnf);exact ⟨rfl,rfl,rfl⟩) (by omega) ?_;intro i p1 ih;by_cases hi:i<n
 ·obtain ⟨r,hr⟩ : ∃ r,a[i]? = some r:=⟨_,zE (by omega)⟩
  have ka:a[(i:Int).toNat]? = some r:=hr;have dp:=hs.at hr;(repeat' ((first|(apply AG<;>intro hc<;>try (exfalso;omega))|(apply AY;omega)|apply AR|(refine A9 (by assumption) ?_ rfl ?_;omega)|apply AE)<;>conv=>whnf))
  exact BF [] (ih (i+1) (by omega) (by omega))
 have ei:i=n:=by omega
 clear ih;rcases hv with ⟨t,h1,h2,rfl⟩|⟨h1,rfl⟩
 ·(repeat' ((first|(apply AG<;>intro hc<;>try (exfalso;omega))|apply AE|refine AC (hS) ?_)<;>conv=>whnf))
  exact ⟨_,AX rfl (by simp [A0,CE]),Or.inl ⟨t,h1,h2,rfl⟩⟩
 ·(repeat' ((first|(apply AG<;>intro hc<;>try (exfalso;omega))|apply AE|refine AC (hS) ?_)<;>conv=>whnf))
  exact ⟨_,AX rfl (by simp [A0,CE]),Or.inr ⟨h1,rfl⟩⟩
end Go.e8
