/-
  State-space forms (layer 27), the program: zeros, at, degree, Valid, Controller.
-/
import Derived.Test.YtfnglkabkfmjcaaGreatB10
import Derived.Test.YtfnglkabkfmjcaaGreatB11
import Derived.Test.YtfnglkabkfmjcaaGreatB9
import Derived.Test.YtfnglkabkfmjcaaGreatB4
import Derived.Test.YtfnglkabkfmjcaaGreatB1
import Derived.Test.YtfnglkabkfmjcaaGreatB7
set_option linter.unusedSimpArgs false
set_option linter.unusedVariables false
set_option linter.unnecessarySimpa false
namespace Go.e9
open F
attribute [local irreducible] AA AF AM AC CK AR AW BD A7 BW AQ BT CD DB BP A4 BO CE AB A8 AJ pw B4 BK CF CI CN CX CJ BS CM
variable {L:Lib}
set_option maxHeartbeats 16000000
theorem Amz (N:al L) (m:Nat) (hm:m<=65536):cI L 206 [.int .i64 (m:Int)] 3 ((List.replicate m (0:Rat)).map eQ):=by
 have hO:=HL N.toa5 0 (by omega);refine cI.x N.aY rfl rfl ?_;(repeat' (apply AE<;>conv=>whnf))
 refine EK (enc:=eO) none m rfl rfl (by omega) ?_;(conv=>whnf)
 skip
 refine B6 (λ i=>m-i) (λ(i:Nat)=>i<=m) (λ i=>[(8,.int .i64 i)]) (λ i=>[(6,6,.rw 3 ((DH (List.replicate i 0) m).map eO))]) [] [] 0 (by first|exact (by (conv=>whnf);exact ⟨rfl,rfl,rfl⟩)|(rw[<-OQ];exact (by (conv=>whnf);exact ⟨rfl,rfl,rfl⟩))) (by omega) ?_;intro i p1 ih;by_cases hi:i<m
 ·have hl:=J3 (l:=List.replicate i (0:Rat)) (m:=m) (by simp;omega)
  have hs:=OR (l:=List.replicate i (0:Rat)) (m:=m) (x:=0) (by simp;omega);rw[List.length_replicate]at hs;(repeat' ((first|(apply AG<;>intro hc<;>try (exfalso;omega))|(apply A0;omega)|apply AE|refine AD (hO) ?_)<;>conv=>whnf))
  refine FP (enc:=eO) (some 0) rfl (λ e=>by cases e<;>rfl) (by omega) ?_;(conv=>whnf)
  (repeat' ((first|(apply AX;omega)|fail)<;>conv=>whnf))
  rw[hs];rw[show List.replicate i (0:Rat)++[0]=List.replicate (i+1) 0 by rw[List.replicate_succ']];exact BL [] (ih (i+1) (by omega) (by omega))
 obtain rfl:i=m:=by omega
 clear ih;rw[OO (by simp)];(repeat' ((first|(apply AG<;>intro hc<;>try (exfalso;omega))|apply AE)<;>conv=>whnf))
 exact ⟨rfl,rfl,by simp,rfl,OK _⟩
theorem xI (N:al L) (q:Bool) (l:List Rat) (i:Int) (k:Nat) (h0:0<=i) (hl:Bs k l) (hk:k<2199023255552) (hn:l.length<=1000000):Ev L 205 [.sl q (l.map eQ),.int .i64 i] (.agg (eQ (l.getD i.toNat 0))):=by
 have hO:=HL N.toa5 0 (by omega);refine Ev.x N.aR rfl rfl ?_;by_cases hi:i<l.length
 ·obtain ⟨x,hx⟩ : ∃ x,l[i.toNat]? = some x:=⟨_,zE (by omega)⟩
  have hT:=gS N.toa5 (hl.at hx) hk;rw[Adw hx];(repeat' ((first|(apply AG<;>intro hc<;>try (exfalso;omega))|apply AU|(refine BH (by assumption) ?_ rfl ?_;omega)|apply AE|refine AD (hT) ?_)<;>conv=>whnf))
  exact AY rfl (EE _)
 ·rw[AmO (l:=l) (by omega)]
  (repeat' ((first|(apply AG<;>intro hc<;>try (exfalso;omega))|apply AU|apply AE|refine AD (hO) ?_)<;>conv=>whnf))
  exact AY rfl (EE _)
theorem Adg (N:al L) (q:Bool) (l:List Rat) (k:Nat) (ht:cE l=l) (hl:Bs k l) (hk:k<2199023255552) (hn:l.length<=1000000):Ev L 204 [.sl q (l.map eQ)] (.int .i64 ((l.length-1:Nat):Int)):=by
 refine Ev.x N.aU rfl rfl ?_;(repeat' ((first|(apply CB;omega)|apply AU|apply AE)<;>conv=>whnf))
 refine G9 ?_;by_cases h2:l.length<=1
 ·(repeat' ((first|(apply AG<;>intro hc<;>try (exfalso;omega))|apply AE)<;>conv=>whnf))
  exact DC (by omega)
 ·obtain ⟨x,hx⟩ : ∃ x,l[l.length-1]? = some x:=⟨_,zE (by omega)⟩
  have nq:l[((l.length:Int)-1).toNat]? = some x:=by rw[show ((l.length:Int)-1).toNat=l.length-1 by omega];exact hx
  have hxn:=Aqx ht (by omega);rw[Adw hx]at hxn;have hS:=mQ N.toa5 (hl.at hx) hk;have hs:=fK (x:=x);generalize dp x.num=s at *;have sn:s≠0:=λ h=>hxn (hs.1 h)
  (repeat' ((first|(apply AG<;>intro hc<;>try (exfalso;omega))|(refine BH (by assumption) ?_ rfl ?_;omega)|apply AE|refine AD (hS) ?_)<;>conv=>whnf))
  exact DC (by omega)
theorem Amw (N:al L) (q1 q2:Bool) (B A:List Rat) (k:Nat) (hB:Bs k B) (hA:Bs k A) (hk:k<2199023255552) (lB:B.length<=49) (lA:A.length<=49) (h0:A[0]? = some 1):Ev L 201 [.agg [.sl q1 (B.map eQ),.sl q2 (A.map eQ)]] (.bool true):=by
 have c1:=mD B B.length;have c2:=mD A A.length;have tu:=Yb N q1 B k hB hk (by omega);have tv:=Yb N q2 A k hA hk (by omega);have hO:=HL N.toa5 1 (by omega);have hC:=Yy N (Bt.one 1) (Bt.one 1) (by omega) (by omega);rw[Oo.2 rfl]at hC;have hAl:0<A.length:=(zS h0).1;have Ba:A[(0:Int).toNat]? = some 1:=h0;generalize I0 B B.length=d1 at *;generalize I0 A A.length=d2 at *;refine Ev.x N.aI rfl rfl ?_;(repeat' ((first|(apply AG<;>intro hc<;>try (exfalso;omega))|apply AU|(refine BH (by assumption) ?_ rfl ?_;omega)|apply AE|refine AD (tu) ?_|refine AD (tv) ?_|refine AD (hO) ?_|refine AD (hC) ?_)<;>conv=>whnf))
 exact JR rfl
theorem Ajo (B A:List Rat) (m:Nat):(FK B A (m+1)).a.take 1=[(List.range (m+1)).map λ k => -(A.getD (k+1) 0)]:=by
 simp [FK,List.range_succ_eq_map]
theorem Ajp {B A:List Rat} {n i:Nat} (h1:1<=i) (hi:i<n):(FK B A n).a[i]? = some (EZ n ((i-1:Nat):Int)):=by
 simp only[FK,List.getElem?_map,List.getElem?_range hi,Option.map_some];rw[if_neg (by omega)]
theorem Vl {B A:List Rat} {n i:Nat} (hi:i<n):(FK B A n).c[i]? = some (B.getD (i+1) 0-B.getD 0 0*A.getD (i+1) 0):=by
 simp only[FK,List.getElem?_map,List.getElem?_range hi,Option.map_some]
theorem Ajr (B A:List Rat) (m:Nat):(FK B A (m+1)).c.take 1=[B.getD 1 0-B.getD 0 0*A.getD 1 0]:=by
 rw[List.take_add_one,Vl (by omega)];rfl
theorem Ajq (B A:List Rat) (n:Nat):(FK B A n).a.length=n:=by simp [FK]
theorem Ajs (B A:List Rat) (n:Nat):(FK B A n).c.length=n:=by simp [FK]
theorem aZ {α:Type} {l:List α} {i:Nat} {x:α} (h:l[i]? = some x):l.take (i+1)=l.take i++[x]:=by
 rw[List.take_add_one,h];rfl
theorem vG (S:E7) (e:Int):A6 (.m9 [.agg (eS S),.int .i64 e]):=by
 have:=mA S
 simp only[A6,CW,true_and,and_true]at this ⊢;exact this
theorem Alr (N:al L) (w1 w2:Bool) (B A:List Rat) (n k:Nat) (hB:cE B=B) (hA:cE A=A) (bB:Bs k B) (bA:Bs k A) (lB:B.length<=17) (lA:A.length<=17) (h0:A[0]? = some 1) (hn:max (B.length-1) (A.length-1)=n) (hk:k<=1000000) :
  Ev L 207 [.agg [.sl w1 (B.map eQ),.sl w2 (A.map eQ)]] (.m9 [.agg (eS (FK B A n)),.int .i64 0]):=by
 have hV:=Amw N w1 w2 B A k bB bA (by omega) (by omega) (by omega) h0;have tu:=Adg N w1 B k hB bB (by omega) (by omega);have tv:=Adg N w2 A k hA bA (by omega) (by omega);have hO:=HL N.toa5 1 (by omega);have ve:=xI N w1 B 0 k (by omega) bB (by omega) (by omega);rw[show B.getD (0:Int).toNat 0=B.getD 0 0 from rfl]at ve;have hZ:=Amz N n (by omega);have bB0:Bt k (B.getD 0 0):=nA bB 0;have Gk : ∀ i:Nat,Ev L 205 [.sl w1 (B.map eQ),.int .i64 ((i:Int)+1)] (.agg (eQ (B.getD (i+1) 0)))/\Ev L 205 [.sl w2 (A.map eQ),.int .i64 ((i:Int)+1)] (.agg (eQ (A.getD (i+1) 0))) /\
   Ev L 99 [.agg (eQ (B.getD 0 0)),.agg (eQ (A.getD (i+1) 0))] (.agg (eQ (B.getD 0 0*A.getD (i+1) 0)))/\Ev L 150 [.agg (eQ (B.getD (i+1) 0)),.agg (eQ (B.getD 0 0*A.getD (i+1) 0))] (.agg (eQ (B.getD (i+1) 0-B.getD 0 0*A.getD (i+1) 0))) /\
   Ev L 199 [.agg (eQ (A.getD (i+1) 0))] (.agg (eQ (-(A.getD (i+1) 0)))):=λ i=>by
  have e1:=xI N w1 B ((i:Int)+1) k (by omega) bB (by omega) (by omega);have e2:=xI N w2 A ((i:Int)+1) k (by omega) bA (by omega) (by omega);rw[show ((i:Int)+1).toNat=i+1 by omega]at e1 e2;exact ⟨e1,e2,FV N.toa5 bB0 (nA bA _) (by omega) (by omega),rD N.tocp (nA bB _) (bB0.mul (nA bA _)) (by omega) (by omega),Xz N (nA bA _) (by omega)⟩
 have hd:(FK B A n).d=B.getD 0 0:=rfl;have dh:=Ajq B A n;have z7:=Ajs B A n;have uc:eS (FK B A n)=[.sl false ((FK B A n).a.map λ r=>[AV.sl false (r.map eQ)]),.sl false ((EZ n 0).map eQ),.sl false ((FK B A n).c.map eQ)]++eQ (B.getD 0 0):=rfl;have fk:=vG (FK B A n) 0;rw[uc]at fk ⊢;have hai : ∀ i,1<=i->i<n->(FK B A n).a[i]? = some (EZ n ((i-1:Nat):Int)):=λ i h1 h2=>Ajp h1 h2
 have Gl : ∀ i,i<n->(FK B A n).c[i]? = some (B.getD (i+1) 0-B.getD 0 0*A.getD (i+1) 0):=λ i h=>Vl h
 have Li:0<n->(FK B A n).a.take 1=[(List.range n).map λ k => -(A.getD (k+1) 0)]:=λ h=>by
  obtain ⟨m,rfl⟩ : ∃ m,n=m+1:=⟨n-1,by omega⟩;exact Ajo B A m
 have Bj:0<n->(FK B A n).c.take 1=[B.getD (0+1) 0-B.getD 0 0*A.getD (0+1) 0]:=λ h=>by
  obtain ⟨m,rfl⟩ : ∃ m,n=m+1:=⟨n-1,by omega⟩;exact Ajr B A m
 have du : ∀ j,j<n->((List.range n).map λ k => -(A.getD (k+1) 0))[j]? = some (-(A.getD (j+1) 0)):=λ j h=>by
  rw[List.getElem?_map,List.getElem?_range h];rfl
 have Jq:((List.range n).map λ k => -(A.getD (k+1) 0)).length=n:=by simp
 have lg : ∀ j,(EZ n j).length=n:=λ j=>oP n j
 generalize (FK B A n).a=a at *;generalize (FK B A n).c=c at *;generalize (List.range n).map (λ k => -(A.getD (k+1) 0))=r0 at *;generalize B.getD 0 0=b0 at *;rcases Nat.lt_or_ge (B.length-1) (A.length-1) with v9|qt
 ·rw[show A.length-1=n by omega]at tv v9
  refine Ev.x N.SR rfl rfl ?_;(repeat' ((first|(apply AG<;>intro hc<;>try (exfalso;omega))|apply AE|refine AD (hV) ?_|refine AD (tu) ?_|refine AD (tv) ?_|refine AD (ve) ?_)<;>conv=>whnf))
  refine bG (enc:=eQ) n hZ (by simp) ?_;(conv=>whnf)
  by_cases zf:n=0
  ·skip
   exact absurd v9 (by omega)
  ·(repeat' ((first|(apply AG<;>intro hc<;>try (exfalso;omega))|(apply A0;omega)|refine AD (hO) ?_)<;>conv=>whnf))
   refine jF (enc:=eQ) 0 1 rfl rfl (λ_=>rfl) (by simp;omega) ?_;(conv=>whnf)
   rw[show (List.replicate n (0:Rat)).set 0 1=EZ n 0 from oQ n 0];skip
   refine G9 ?_;(repeat' ((first|(apply AG<;>intro hc<;>try (exfalso;omega))|apply AE)<;>conv=>whnf))
   refine bG (enc:=eQ) n hZ (by simp) ?_;(conv=>whnf)
   (repeat' ((first|(apply AG<;>intro hc<;>try (exfalso;omega))|fail)<;>conv=>whnf))
   refine B6 (λ j=>n-j) (λ(j:Nat)=>j<=n) (λ j=>[(50,.int .i64 j)]) (λ j=>[(41,41,.rw 3 ((cz r0 n j).map eQ))]) [] [] 0 (by first|exact (by (conv=>whnf);exact ⟨rfl,rfl,rfl⟩)|(rw[Zj];exact (by (conv=>whnf);exact ⟨rfl,rfl,rfl⟩))) (by omega) ?_;intro j p1 ih;have yo:=Zi (row:=r0) p1;by_cases hj:j<n
   ·have o9:=Acc (du j hj) hj
    obtain ⟨f1,f2,f3,f4,f5⟩:=Gk j;(repeat' ((first|(apply AG<;>intro hc<;>try (exfalso;omega))|(apply A0;omega)|(apply AX;omega)|apply AE|refine AD (f2) ?_|refine AD (f5) ?_)<;>conv=>whnf))
    refine FP (enc:=eQ) (-(A.getD (j+1) 0)) rfl (λ_=>rfl) (by omega) ?_;(conv=>whnf)
    (repeat' ((first|(apply AX;omega)|fail)<;>conv=>whnf))
    rw[o9];exact BL [] (ih (j+1) (by omega) (by omega))
   obtain rfl:j=n:=by omega
   clear ih;rw[Zh Jq];obtain ⟨f1,f2,f3,f4,f5⟩:=Gk 0;(repeat' ((first|(apply AG<;>intro hc<;>try (exfalso;omega))|apply AE)<;>conv=>whnf))
   refine A0 ⟨by rw[List.length_map];omega,by omega⟩ ?_;(conv=>whnf)
   (repeat' ((first|(apply AX;omega)|apply EL|refine AD (ve) ?_|refine AD (f1) ?_|refine AD (f2) ?_|refine AD (f3) ?_|refine AD (f4) ?_)<;>conv=>whnf))
   refine lE (enc:=eQ) (B.getD (0+1) 0-b0*A.getD (0+1) 0) rfl rfl (by omega) ?_;(conv=>whnf)
   (repeat' ((first|(apply AX;omega)|fail)<;>conv=>whnf))
   refine B6 (λ i=>j-i) (λ(i:Nat)=>1<=i/\i<=j) (λ i=>[(37,.int .i64 i)]) (λ i=>[(5,5,.bx ([.row 67 0 1 0 i,.row 28 0 3 0 j,.row 88 0 3 0 i]++eQ b0)),(67,67,.mx (B7 3 eQ (a.take i))),(88,88,.rw 3 ((c.take i).map eQ))]) [] [] 1 (by first|exact (by (conv=>whnf);exact ⟨rfl,rfl,rfl⟩)|(rw[Li (by omega),Bj (by omega)];exact (by (conv=>whnf);exact ⟨rfl,rfl,rfl⟩))) (by omega) ?_;intro i ⟨g1,g2⟩ ih;have Ej:(a.take i).length=i:=by rw[List.length_take];omega
   have Eo:(c.take i).length=i:=by rw[List.length_take];omega
   by_cases hi:i<j
   ·obtain ⟨f1,f2,f3,f4,f5⟩:=Gk i
    have Jx:=aZ (hai i g1 hi);have Sx:=aZ (Gl i hi);have Ek:(a.take (i+1)).length=i+1:=by rw[List.length_take];omega
    have Er:(c.take (i+1)).length=i+1:=by rw[List.length_take];omega
    have Tx:=lg ((i-1:Nat):Int);(repeat' ((first|(apply AG<;>intro hc<;>try (exfalso;omega))|apply AE)<;>conv=>whnf))
    refine bG (enc:=eQ) j hZ (by simp) ?_;(conv=>whnf)
    (repeat' ((first|(apply AG<;>intro hc<;>try (exfalso;omega))|(apply A0;omega)|(apply CB;omega)|refine AD (hO) ?_)<;>conv=>whnf))
    refine jF (enc:=eQ) (i-1) 1 (by omega) rfl (λ_=>rfl) (by simp;omega) ?_;(conv=>whnf)
    rw[oQ];skip
    refine A0 (by rw[List.length_map];omega) ?_;refine Vc (r:=EZ j ((i-1:Nat):Int)) (en:=eQ) Ej.symm (by omega) (by omega) ?_;rw[<-Jx,Ek];(conv=>whnf)
    (repeat' ((first|(apply AX;omega)|apply EL|refine AD (ve) ?_|refine AD (f1) ?_|refine AD (f2) ?_|refine AD (f3) ?_|refine AD (f4) ?_)<;>conv=>whnf))
    refine E6 (enc:=eQ) (B.getD (i+1) 0-b0*A.getD (i+1) 0) rfl Eo.symm rfl (by omega) (by omega) ?_;rw[<-Sx,Er];(conv=>whnf)
    (repeat' ((first|(apply AX;omega)|fail)<;>conv=>whnf))
    exact BL [(67,1000067),(88,1000088)] (ih (i+1) (by omega) (by omega))
   obtain rfl:i=j:=by omega
   clear ih;rw[List.take_of_length_le (Nat.le_of_eq dh),List.take_of_length_le (Nat.le_of_eq z7)]at *;(repeat' ((first|(apply AG<;>intro hc<;>try (exfalso;omega))|apply AE)<;>conv=>whnf))
   refine UN (λ_=>rfl) rfl dh.symm ?_;(conv=>whnf)
   refine DR (enc:=eQ) (λ_=>rfl) rfl (lg 0).symm ?_;(conv=>whnf)
   refine DR (enc:=eQ) (λ_=>rfl) rfl z7.symm ?_;(conv=>whnf)
   exact AY rfl fk
 ·rw[show B.length-1=n by omega]at tu qt
  refine Ev.x N.SR rfl rfl ?_;(repeat' ((first|(apply AG<;>intro hc<;>try (exfalso;omega))|apply AE|refine AD (hV) ?_|refine AD (tu) ?_|refine AD (tv) ?_|refine AD (ve) ?_)<;>conv=>whnf))
  refine bG (enc:=eQ) n hZ (by simp) ?_;(conv=>whnf)
  by_cases zf:n=0
  ·skip
   subst zf;(repeat' ((first|(apply AG<;>intro hc<;>try (exfalso;omega))|fail)<;>conv=>whnf))
   refine G9 ?_;(repeat' ((first|(apply AG<;>intro hc<;>try (exfalso;omega))|(refine DR (λ_=>rfl) rfl ?_ ?_;(first|rfl|simp))|apply AE)<;>conv=>whnf))
   rw[List.eq_nil_of_length_eq_zero dh,List.eq_nil_of_length_eq_zero z7]at *;exact AY rfl fk
  ·(repeat' ((first|(apply AG<;>intro hc<;>try (exfalso;omega))|(apply A0;omega)|refine AD (hO) ?_)<;>conv=>whnf))
   refine jF (enc:=eQ) 0 1 rfl rfl (λ_=>rfl) (by simp;omega) ?_;(conv=>whnf)
   rw[show (List.replicate n (0:Rat)).set 0 1=EZ n 0 from oQ n 0];skip
   refine G9 ?_;(repeat' ((first|(apply AG<;>intro hc<;>try (exfalso;omega))|apply AE)<;>conv=>whnf))
   refine bG (enc:=eQ) n hZ (by simp) ?_;(conv=>whnf)
   (repeat' ((first|(apply AG<;>intro hc<;>try (exfalso;omega))|fail)<;>conv=>whnf))
   refine B6 (λ j=>n-j) (λ(j:Nat)=>j<=n) (λ j=>[(50,.int .i64 j)]) (λ j=>[(41,41,.rw 3 ((cz r0 n j).map eQ))]) [] [] 0 (by first|exact (by (conv=>whnf);exact ⟨rfl,rfl,rfl⟩)|(rw[Zj];exact (by (conv=>whnf);exact ⟨rfl,rfl,rfl⟩))) (by omega) ?_;intro j p1 ih;have yo:=Zi (row:=r0) p1;by_cases hj:j<n
   ·have o9:=Acc (du j hj) hj
    obtain ⟨f1,f2,f3,f4,f5⟩:=Gk j;(repeat' ((first|(apply AG<;>intro hc<;>try (exfalso;omega))|(apply A0;omega)|(apply AX;omega)|apply AE|refine AD (f2) ?_|refine AD (f5) ?_)<;>conv=>whnf))
    refine FP (enc:=eQ) (-(A.getD (j+1) 0)) rfl (λ_=>rfl) (by omega) ?_;(conv=>whnf)
    (repeat' ((first|(apply AX;omega)|fail)<;>conv=>whnf))
    rw[o9];exact BL [] (ih (j+1) (by omega) (by omega))
   obtain rfl:j=n:=by omega
   clear ih;rw[Zh Jq];obtain ⟨f1,f2,f3,f4,f5⟩:=Gk 0;(repeat' ((first|(apply AG<;>intro hc<;>try (exfalso;omega))|apply AE)<;>conv=>whnf))
   refine A0 ⟨by rw[List.length_map];omega,by omega⟩ ?_;(conv=>whnf)
   (repeat' ((first|(apply AX;omega)|apply EL|refine AD (ve) ?_|refine AD (f1) ?_|refine AD (f2) ?_|refine AD (f3) ?_|refine AD (f4) ?_)<;>conv=>whnf))
   refine lE (enc:=eQ) (B.getD (0+1) 0-b0*A.getD (0+1) 0) rfl rfl (by omega) ?_;(conv=>whnf)
   (repeat' ((first|(apply AX;omega)|fail)<;>conv=>whnf))
   refine B6 (λ i=>j-i) (λ(i:Nat)=>1<=i/\i<=j) (λ i=>[(37,.int .i64 i)]) (λ i=>[(5,5,.bx ([.row 67 0 1 0 i,.row 28 0 3 0 j,.row 88 0 3 0 i]++eQ b0)),(67,67,.mx (B7 3 eQ (a.take i))),(88,88,.rw 3 ((c.take i).map eQ))]) [] [] 1 (by first|exact (by (conv=>whnf);exact ⟨rfl,rfl,rfl⟩)|(rw[Li (by omega),Bj (by omega)];exact (by (conv=>whnf);exact ⟨rfl,rfl,rfl⟩))) (by omega) ?_;intro i ⟨g1,g2⟩ ih;have Ej:(a.take i).length=i:=by rw[List.length_take];omega
   have Eo:(c.take i).length=i:=by rw[List.length_take];omega
   by_cases hi:i<j
   ·obtain ⟨f1,f2,f3,f4,f5⟩:=Gk i
    have Jx:=aZ (hai i g1 hi);have Sx:=aZ (Gl i hi);have Ek:(a.take (i+1)).length=i+1:=by rw[List.length_take];omega
    have Er:(c.take (i+1)).length=i+1:=by rw[List.length_take];omega
    have Tx:=lg ((i-1:Nat):Int);(repeat' ((first|(apply AG<;>intro hc<;>try (exfalso;omega))|apply AE)<;>conv=>whnf))
    refine bG (enc:=eQ) j hZ (by simp) ?_;(conv=>whnf)
    (repeat' ((first|(apply AG<;>intro hc<;>try (exfalso;omega))|(apply A0;omega)|(apply CB;omega)|refine AD (hO) ?_)<;>conv=>whnf))
    refine jF (enc:=eQ) (i-1) 1 (by omega) rfl (λ_=>rfl) (by simp;omega) ?_;(conv=>whnf)
    rw[oQ];skip
    refine A0 (by rw[List.length_map];omega) ?_;refine Vc (r:=EZ j ((i-1:Nat):Int)) (en:=eQ) Ej.symm (by omega) (by omega) ?_;rw[<-Jx,Ek];(conv=>whnf)
    (repeat' ((first|(apply AX;omega)|apply EL|refine AD (ve) ?_|refine AD (f1) ?_|refine AD (f2) ?_|refine AD (f3) ?_|refine AD (f4) ?_)<;>conv=>whnf))
    refine E6 (enc:=eQ) (B.getD (i+1) 0-b0*A.getD (i+1) 0) rfl Eo.symm rfl (by omega) (by omega) ?_;rw[<-Sx,Er];(conv=>whnf)
    (repeat' ((first|(apply AX;omega)|fail)<;>conv=>whnf))
    exact BL [(67,1000067),(88,1000088)] (ih (i+1) (by omega) (by omega))
   obtain rfl:i=j:=by omega
   clear ih;rw[List.take_of_length_le (Nat.le_of_eq dh),List.take_of_length_le (Nat.le_of_eq z7)]at *;(repeat' ((first|(apply AG<;>intro hc<;>try (exfalso;omega))|apply AE)<;>conv=>whnf))
   refine UN (λ_=>rfl) rfl dh.symm ?_;(conv=>whnf)
   refine DR (enc:=eQ) (λ_=>rfl) rfl (lg 0).symm ?_;(conv=>whnf)
   refine DR (enc:=eQ) (λ_=>rfl) rfl z7.symm ?_;(conv=>whnf)
   exact AY rfl fk
def S5 (a:List (List Rat)):List (List Rat):=(List.range a.length).map (CO a)
theorem Nk (a:List (List Rat)):(S5 a).length=a.length:=by simp [S5]
theorem Ahn {R:List (Option (Nat × List (List AV)))} {e:Nat} {r:Option (Nat × List (List AV))} {K:Option (Nat × List (List AV))->Prop} (h:R[e]? = some r) (hk:K r):B4 R e K:=by
 unfold B4;exact ⟨r,h,hk⟩
def fD (v:Int):Rat:=Rat.divInt (v%25-12) (1+v/25%8)
def E9 (l:List Int) (n:Nat):List Rat:=(List.range n).map λ i:Nat=>fD (ES (EY l (i:Int)) 2000)
theorem fE (l:List Int) (n:Nat):(E9 l n).length=n:=by simp [E9]
theorem Afj (l:List Int) (n:Nat):E9 l (n+1)=E9 l n++[fD (ES (EY l (n:Int)) 2000)]:=by simp [E9,List.range_succ]
theorem Apo {v:Int} (h:0<=v):Bt 4 (fD v):=by
 unfold fD;obtain ⟨d,hd⟩:=Int.eq_ofNat_of_zero_le (show 0<=1+v/25%8 by omega);rw[hd,Rat.divInt_ofNat];refine Bt.mk ?_ ?_
 ·show _<=16;omega
 ·show _<=16;omega
theorem Nx (l:List Int) (n:Nat):Bs 4 (E9 l n):=by
 intro x hx;simp only[E9,List.mem_map]at hx;obtain ⟨i,_,rfl⟩:=hx;refine Apo ?_;unfold ES;split<;>omega
theorem Alx (N:dm L) (l:List Int) (q:Bool) (n:Nat) (hl : ∀ x∈l,GW x) (hn:n<=1000000):Ev L 141 [.sl q (l.map cU),.int .i64 (n:Int)] (.sl false ((E9 l n).map eQ)):=by
 have ji : ∀ i:Nat,GW (EY l (i:Int)):=λ i=>by
  unfold EY;split
  ·rw[List.getD_eq_getElem?_getD]
   cases e:l[((i:Int)).toNat]? with
   | none=>simp [GW]
   | some x=>exact hl x (zM e)
  ·simp [GW]
 refine Ev.x N.TD rfl rfl ?_;(repeat' (apply AE<;>conv=>whnf))
 refine B6 (λ i=>n-i) (λ(i:Nat)=>i<=n) (λ i=>[(6,.int .i64 i),(5,.row 5 0 3 0 i)]) (λ i=>[(5,5,.rw 3 ((E9 l i).map eQ))]) [] [] 0 (by (conv=>whnf);exact ⟨rfl,rfl,rfl⟩) (by omega) ?_;intro i p1 ih;by_cases hi:i<n
 ·have hA:=xJ N.tobh l q (i:Int)
  have Pl:=λ q=>xJ N.tobh l q (i:Int)
  have hW:=xK N.tobh (EY l (i:Int)) 2000 (ji i) (by omega);have hw0:0<=ES (EY l (i:Int)) 2000/\ES (EY l (i:Int)) 2000<2000:=by unfold ES;split<;>omega
  have rh:=Afj l i;have hlen:=fE l i;have hF:=jT N.tol7 (ES (EY l (i:Int)) 2000%25-12) (1+ES (EY l (i:Int)) 2000/25%8) (by omega) (by omega);have Po:Ev L 125 [.int .i64 (ES (EY l (i:Int)) 2000%25-12),.int .i64 (1+ES (EY l (i:Int)) 2000/25%8)] (.agg (eQ (fD (ES (EY l (i:Int)) 2000)))):=hF;clear hF;generalize fD (ES (EY l (i:Int)) 2000)=y at *;generalize ES (EY l (i:Int)) 2000=v at *;(repeat' ((first|(apply AG<;>intro hc<;>try (exfalso;omega))|(apply AX;omega)|(apply CB;omega)|(refine gA ?_ (λ_ _ _ => ?_) (λ_ _ _ _ => ?_);omega;all_goals try (exfalso;omega))|(refine dU ?_ ?_ (λ_ => ?_) (λ_ _ => ?_);omega;omega;all_goals try (exfalso;omega))|apply EL|apply AE|refine AD (Pl _) ?_|refine AD (hW) ?_|refine AD (Po) ?_)<;>conv=>whnf))
  refine E6 (enc:=eQ) y rfl hlen.symm rfl (by omega) (by omega) ?_;(conv=>whnf)
  (repeat' ((first|(apply AX;omega)|fail)<;>conv=>whnf))
  rw[show (E9 l i++[y]).length=i+1 by simp [hlen],<-rh];exact BL [(5,27)] (ih (i+1) (by omega) (by omega))
 ·obtain rfl:i=n:=by omega
  clear ih;have hlen:=fE l i;(repeat' ((first|(apply AG<;>intro hc<;>try (exfalso;omega))|apply AE)<;>conv=>whnf))
  refine DR (enc:=eQ) (λ_=>rfl) rfl hlen.symm ?_;(conv=>whnf)
  exact AY rfl (by simp only[A6,true_and];exact OK _)
def fI (X:List Rat) (n j:Nat):List Rat:=(X.take (j*n+n)).drop (j*n)
def HP (X:List Rat) (n i:Nat):List (List Rat):=(List.range i).map (fI X n)
theorem Aps (X:List Rat) (n i:Nat):HP X n (i+1)=HP X n i++[fI X n i]:=by simp [HP,List.range_succ]
def cC (l:List Int) (n:Nat):E7 :=
 let X:=E9 l (n*n+2*n+1)
 ⟨HP X n n,(X.take (n*n+n)).drop (n*n),(X.take (n*n+2*n)).drop (n*n+n),X.getD (n*n+2*n) 0⟩
end Go.e9


namespace Go.e9
open F
attribute [local irreducible] AA AF AM AC CK AR AW BD A7 BW AQ BT CD DB BP A4 BO CE AB A8 AJ pw B4 BK CF CI CN CX CJ BS CM
variable {L:Lib}
set_option maxHeartbeats 8000000
theorem Afv {X:List Rat} {n j:Nat} (h:j*n+n<=X.length):(fI X n j).length=n:=by
 simp only[fI,List.length_drop,List.length_take];omega
theorem Aql (l:List Int) (n:Nat):(cC l n).Ok n 4:=by
 have hX:=fE l (n*n+2*n+1);have hb:=Nx l (n*n+2*n+1);have mem : ∀ (i j:Nat) (x:Rat),x∈((E9 l (n*n+2*n+1)).take j).drop i->Bt 4 x:=λ i j x hx=>hb x (List.mem_of_mem_take (List.mem_of_mem_drop hx))
 have hr : ∀ r∈HP (E9 l (n*n+2*n+1)) n n,∃ j,j<n/\r=fI (E9 l (n*n+2*n+1)) n j:=λ r hr=>by
  simp only[HP,List.mem_map,List.mem_range]at hr;obtain ⟨j,h1,rfl⟩:=hr;exact ⟨j,h1,rfl⟩
 refine ⟨by simp [cC,HP],?_,?_,?_,?_,λ x hx=>mem _ _ x hx,λ x hx=>mem _ _ x hx,?_⟩
 ·intro r h
  obtain ⟨j,h1,rfl⟩:=hr r h;refine Afv ?_;have:=Nat.mul_le_mul_right n (show j+1<=n by omega)
  rw[Nat.succ_mul]at this;omega
 ·simp only[cC,List.length_drop,List.length_take];omega
 ·simp only[cC,List.length_drop,List.length_take];omega
 ·intro r h x hx
  obtain ⟨j,h1,rfl⟩:=hr r h;exact mem _ _ x hx
 ·show Bt 4 ((E9 l (n*n+2*n+1)).getD (n*n+2*n) 0)
  rw[List.getD_eq_getElem?_getD];cases e:(E9 l (n*n+2*n+1))[n*n+2*n]? with
  | none=>exact Bt.zero 4
  | some x=>exact hb.at e
end Go.e9



namespace Go.e9
open F
attribute [local irreducible] AA AF AM AC CK AR AW BD A7 BW AQ BT CD DB BP A4 BO CE AB A8 AJ pw B4 BK CF CI CN CX CJ BS CM
variable {L:Lib}
set_option maxHeartbeats 8000000
set_option maxRecDepth 8000
end Go.e9

namespace Go.e9
set_option maxHeartbeats 4000000
def D7 (T U:List (List Rat)) (S:E7) (n:Nat):E7:=⟨C1 (C1 T S.a n) U n,BX T S.b,BX (S5 U) S.c,S.d⟩
theorem Agu {U:List (List Rat)} {n:Nat} (hU:Sq n U) (c:List Rat):BX (S5 U) c=EU c U n:=by
 rw[BX,S5,List.map_map,hU.l,EU];exact List.map_congr_left λ j _=>FU _ _
theorem AnR {T U:List (List Rat)} {n:Nat} (hn:n<=2) (hT:Sq n T) (hU:Sq n U) (hb:Ms 4 T) (gv : ∀ v:List Rat,v.length=n->BX U (BX T v)=v):Ms 21 U:=by
 obtain rfl|rfl|rfl:n=0\/n=1\/n=2:=by omega
 ·have:=hU.l
  rw[List.length_eq_zero_iff]at this;subst this;intro r hr;cases hr
 ·obtain ⟨tl,tr⟩:=hT
  obtain ⟨ul,ur⟩:=hU;match T,tl with
  | [t],_ =>
   have h1:=tr t (by simp);match t,h1 with
   | [x],_ =>
    match U,ul with
    | [u],_ =>
     have h2:=ur u (by simp);match u,h2 with
     | [y],_ =>
      have h:=gv [1] rfl;simp only[BX,List.map_cons,List.map_nil,AZ,List.cons.injEq,and_true]at h;have hx:Bt 4 x:=hb [x] (by simp) x (by simp);have h0:x≠0:=λ e=>by rw[e]at h;grind
      have e:y=x⁻¹:=by grind
      intro r hr;obtain rfl:=List.mem_singleton.1 hr;intro z hz;obtain rfl:=List.mem_singleton.1 hz;rw[e];exact hx.Kl.le (by omega)
 ·obtain ⟨tl,tr⟩:=hT
  obtain ⟨ul,ur⟩:=hU;match T,tl with
  | [t,s],_ =>
   have h1:=tr t (by simp);have h2:=tr s (by simp);match t,s,h1,h2 with
   | [a,b],[c,d],_,_ =>
    match U,ul with
    | [u,v],_ =>
     have h3:=ur u (by simp);have h4:=ur v (by simp);match u,v,h3,h4 with
     | [p,q],[r,s],_,_ =>
      have g1:=gv [1,0] rfl;have g2:=gv [0,1] rfl;simp only[BX,List.map_cons,List.map_nil,AZ,List.cons.injEq,and_true]at g1 g2;obtain ⟨e1,e2⟩:=g1;obtain ⟨e3,e4⟩:=g2;have ha:Bt 4 a:=hb [a,b] (by simp) a (by simp);have fw:Bt 4 b:=hb [a,b] (by simp) b (by simp);have bq:Bt 4 c:=hb [c,d] (by simp) c (by simp);have hd:Bt 4 d:=hb [c,d] (by simp) d (by simp);have f1:p*a+q*c=1:=by grind
      have f2:r*a+s*c=0:=by grind
      have f3:p*b+q*d=0:=by grind
      have f4:r*b+s*d=1:=by grind
      clear e1 e2 e3 e4 gv;have k1:p*(a*d-b*c)=d:=by grind
      have k2:q*(a*d-b*c) = -b:=by grind
      have k3:r*(a*d-b*c) = -c:=by grind
      have k4:s*(a*d-b*c)=a:=by grind
      have hD:Bt 17 (a*d-b*c):=(ha.mul hd).rn (fw.mul bq);have h0:a*d-b*c≠0:=λ e=>by
       rw[e,Rat.mul_zero]at k1 k2 k3 k4;have:a=0:=k4.symm
       have:c=0:=by grind
       grind
      have key : ∀ x y:Rat,x*(a*d-b*c)=y->x=y/(a*d-b*c):=λ x y h=>by
       rw[<-h,Rat.div_def,Rat.mul_assoc,Rat.mul_inv_cancel _ h0,Rat.mul_one]
      intro w hw;simp only[List.mem_cons,List.not_mem_nil,or_false]at hw;rcases hw with rfl|rfl
      ·intro z hz
       simp only[List.mem_cons,List.not_mem_nil,or_false]at hz;rcases hz with rfl|rfl
       ·rw[key _ _ k1];exact hd.nr hD
       ·rw[key _ _ k2];exact (Bt.Ac fw).nr hD
      ·intro z hz
       simp only[List.mem_cons,List.not_mem_nil,or_false]at hz;rcases hz with rfl|rfl
       ·rw[key _ _ k3];exact (Bt.Ac bq).nr hD
       ·rw[key _ _ k4];exact ha.nr hD
theorem Aqy {U:List (List Rat)} {k:Nat} (h:Ms k U):Ms k (S5 U):=λ r hr=>by
 obtain ⟨i,_,rfl⟩:=List.mem_map.1 hr;exact h.Ph i
theorem Aqz {U:List (List Rat)} {n:Nat} (h:Sq n U):Sq n (S5 U):=⟨by rw[Nk,h.l],λ r hr=>by
 obtain ⟨i,_,rfl⟩:=List.mem_map.1 hr;rw[qH,h.l]⟩
theorem zO (x:Rat):x.num<0↔x<0:=by rw[<-Int.not_le,Rat.num_nonneg,Rat.not_le]
theorem pP (x:Rat):H7 x=if x<0 then -x else x:=by
 unfold H7;by_cases h:x<0
 ·rw[if_pos h,if_pos ((zO x).2 h)]
 ·rw[if_neg h,if_neg (λ e=>h ((zO x).1 e))]
theorem Aix (x y:Rat):H7 (x*y)=H7 x*H7 y:=by
 have pp : ∀ a b:Rat,0<=a->0<=b->0<=a*b:=λ a b=>Rat.mul_nonneg
 rw[pP,pP,pP];by_cases hx:x<0
 ·by_cases hy:y<0
  ·have h:=pp (-x) (-y) (by grind) (by grind)
   rw[if_pos hx,if_pos hy,if_neg (by rw[Rat.not_lt];grind)];grind
  ·have h:=pp (-x) y (by grind) (by grind)
   rw[if_pos hx,if_neg hy];by_cases h0:x*y<0
   ·rw[if_pos h0];grind
   ·rw[if_neg h0];grind
 ·by_cases hy:y<0
  ·have h:=pp x (-y) (by grind) (by grind)
   rw[if_neg hx,if_pos hy];by_cases h0:x*y<0
   ·rw[if_pos h0];grind
   ·rw[if_neg h0];grind
  ·have h:=pp x y (by grind) (by grind)
   rw[if_neg hx,if_neg hy,if_neg (by grind)]
theorem Aiy {x:Rat} (h:0<=x):H7 x=x:=by
 rw[pP,if_neg (by grind)]
def C5:List Rat->Rat
 | []=>0
 | x::l=>H7 x+C5 l
theorem AfN (x:Rat) : ∀ l,C5 (l++[x])=C5 l+H7 x
 | []=>by simp only[List.nil_append,C5];grind
 | y::l=>by
  simp only[List.cons_append,C5,AfN x l];grind
theorem Ou {c:Rat} (hc:0<=c) : ∀ l,C5 (l.map (· * c))=C5 l*c
 | []=>by simp only[List.map_nil,C5];grind
 | x::l=>by
  simp only[List.map_cons,C5,Ou hc l,Aix,Aiy hc];grind
def GI (a:List (List Rat)):Bool:=a.all λ r=>decide (C5 r<=1/2)
def DN (n:Nat) (a:List (List Rat)):Nat->List (List Rat)
 | 0=>a
 | k+1=>C1 (DN n a k) (DN n a k) n
theorem Mv {n:Nat} {a:List (List Rat)} (h:Sq n a) : ∀ k,Sq n (DN n a k)
 | 0=>h
 | k+1=>Sq.mul (Mv h k).l _
def CU (c:Rat) (a:List (List Rat)):List (List Rat):=a.map λ r=>r.map (· * c)
theorem Ov (c:Rat) (a:List (List Rat)):(CU c a).length=a.length:=by simp [CU]
theorem oC {n:Nat} (c:Rat) {a:List (List Rat)} (h : ∀ r∈a,r.length=n) : ∀ r∈CU c a,r.length=n:=λ r hr=>by
 obtain ⟨s,hs,rfl⟩:=List.mem_map.1 hr;rw[List.length_map];exact h s hs
theorem AfO {n:Nat} (c:Rat) {a:List (List Rat)} (h:Sq n a):Sq n (CU c a):=⟨by rw[Ov,h.l],oC c h.r⟩
theorem ApX {c:Rat} {a:List (List Rat)} {i:Nat} {r:List Rat} (h:a[i]? = some r):(CU c a)[i]? = some (r.map (· * c)):=by rw[CU,List.getElem?_map,h];rfl
theorem AmR (r:List Rat) (c:Rat) (j:Nat):(r.map (· * c)).getD j 0=r.getD j 0*c:=by
 rw[List.getD_eq_getElem?_getD,List.getD_eq_getElem?_getD,List.getElem?_map];cases r[j]? with
 | none=>simp [Rat.zero_mul]
 | some x=>rfl
theorem Ajd (c:Rat) (a:List (List Rat)) (j:Nat):CO (CU c a) j=(CO a j).map (· * c):=by
 rw[CO,CO,CU,List.map_map,List.map_map];exact List.map_congr_left λ r _=>AmR r c j
theorem Acx (c d:Rat) (u v:List Rat):AZ (u.map (· * c)) (v.map (· * d))=AZ u v*(c*d):=by
 rw[cT,FU,cT,FU];grind
theorem zK (c d:Rat) (a b:List (List Rat)) (n:Nat):C1 (CU c a) (CU d b) n=CU (c*d) (C1 a b n):=by
 show (a.map λ r=>r.map (· * c)).map (λ r=>EU r (CU d b) n)=(a.map λ r=>EU r b n).map (λ r=>r.map (· * (c*d)));rw[List.map_map,List.map_map];refine List.map_congr_left λ r _ => ?_
 show EU (r.map (· * c)) (CU d b) n=(EU r b n).map (· * (c*d));rw[EU,EU,List.map_map];refine List.map_congr_left λ j _ => ?_
 show AZ (r.map (· * c)) (CO (CU d b) j)=AZ r (CO b j)*(c*d);rw[Ajd,Acx]
theorem AoF (c d:Rat) (a:List (List Rat)) (v:List Rat):BX (CU c a) (v.map (· * d))=(BX a v).map (· * (c*d)):=by
 show (a.map λ r=>r.map (· * c)).map (λ r=>AZ r (v.map (· * d)))=(a.map λ r=>AZ r v).map (· * (c*d));rw[List.map_map,List.map_map];exact List.map_congr_left λ r _=>Acx c d r v
def EB (D:Rat):Nat->Rat
 | 0=>D
 | i+1=>EB D i*EB D i
theorem vZ {D:Rat} (h:0<D) : ∀ i,0<EB D i
 | 0=>h
 | i+1=>Rat.mul_pos (vZ h i) (vZ h i)
theorem Af3 (n:Nat) (a:List (List Rat)) (D:Rat) (i:Nat):C1 (CU (EB D i) (DN n a i)) (CU (EB D i) (DN n a i)) n=CU (EB D (i+1)) (DN n a (i+1)):=zK _ _ _ _ _
theorem AdE {s D:Rat} (hD:0<D):s*D+s*D<=D↔s<=1/2:=by
 have e:s*D+s*D=(s+s)*D:=by grind
 have h1:(s+s)*D<=1*D↔s+s<=1:=⟨λ h=>Rat.le_of_mul_le_mul_right h hD,λ h=>Rat.mul_le_mul_of_nonneg_right h (by grind)⟩;rw[Rat.one_mul]at h1;rw[e,h1];constructor<;>intro h<;>grind
theorem AqN {k:Nat} {x:Rat} (hx:Bt k x) {S:Nat} {z:Int} (hz:x*(S:Rat)=(z:Rat)) {M:Nat} (hS:S<=2^M):Wh (k+M) (x*(S:Rat)):=by
 refine ⟨z,hz,?_⟩;have h1:=eR x;have h2:((z*(x.den:Int):Int):Rat)=((x.num*(S:Int):Int):Rat):=by
  rw[Rat.intCast_mul,Rat.intCast_mul,<-h1,<-hz,Rat.intCast_natCast,Rat.intCast_natCast];grind
 have h3:=congrArg Int.natAbs (Rat.intCast_inj.1 h2);rw[Int.natAbs_mul,Int.natAbs_mul,Int.natAbs_natCast,Int.natAbs_natCast]at h3;have h4:z.natAbs<=z.natAbs*x.den:=Nat.le_mul_of_pos_right _ x.den_pos;rw[Nat.pow_add];exact Nat.le_trans h4 (by rw[h3];exact Nat.mul_le_mul hx.1 hS)
theorem ApJ (S:Nat) (x:Rat):((S:Rat)*x).den ∣ x.den:=by
 refine qP (z:=S*x.num) ?_;have h:=eR x;rw[Rat.intCast_mul,<-h,Rat.intCast_natCast];grind
theorem AfG {k:Nat} : ∀ (l:List Rat) (S:Nat),0<S->Bs k l -> ∃ S':Nat,l.foldl SI (S:Rat)=(S':Rat)/\0<S'/\S'<=S*2^(l.length*k)/\S ∣ S' /\ ∀ x∈l,∃ z:Int,x*(S':Rat)=(z:Rat)
 | [],S,h,_=>⟨S,rfl,h,by simp,Nat.dvd_refl S,λ x hx=>by cases hx⟩
 | x::l,S,h,hb=>by
  have h1:=ApJ S x;have hx:=hb x List.mem_cons_self;have h2:((S:Rat)*x)*((((S:Rat)*x).den:Nat):Rat)=(((S:Rat)*x).num:Rat):=eR _;have h3:=Nat.le_of_dvd x.den_pos h1;have h4:=((S:Rat)*x).den_pos;generalize ((S:Rat)*x).num=u at h2;obtain ⟨S',e,p1,p2,p3,p4⟩:=AfG l (S*((S:Rat)*x).den) (Nat.mul_pos h h4) λ y hy=>hb y (List.mem_cons_of_mem _ hy)
  refine ⟨S',by rw[List.foldl_cons,<-e,SI,Rat.natCast_mul],p1,?_,Nat.dvd_trans (Nat.dvd_mul_right _ _) p3,λ y hy => ?_⟩
  ·have h5:S*((S:Rat)*x).den<=S*2^k:=Nat.mul_le_mul_left S (Nat.le_trans h3 hx.2)
   have h6:=Nat.mul_le_mul_right (2^(l.length*k)) h5;rw[List.length_cons,Nat.succ_mul,Nat.pow_add,Nat.mul_comm (2^(l.length*k)),<-Nat.mul_assoc];exact Nat.le_trans p2 h6
  ·rcases List.mem_cons.1 hy with rfl|hy
   ·obtain ⟨t,rfl⟩:=p3
    refine ⟨u*(t:Int),?_⟩;rw[Rat.natCast_mul,Rat.natCast_mul,Rat.intCast_mul,<-h2,Rat.intCast_natCast];grind
   ·exact p4 y hy
theorem AfH {k:Nat} {l:List Rat} (hb:Bs k l) : ∃ S:Nat,BF l=(S:Rat)/\0<S/\S<=2^(l.length*k) /\ ∀ x∈l,∃ z:Int,x*(S:Rat)=(z:Rat):=by
 obtain ⟨S,e,h1,h2,_,h3⟩:=AfG l 1 (by omega) hb;exact ⟨S,e,h1,by rwa [Nat.one_mul]at h2,h3⟩
theorem AjN (S:Nat) (x:Rat):((S:Rat)/(x.den:Rat)).den=((S:Rat)*x).den:=by
 have Bl:(x.den:Rat)≠0:=λ e=>by
  have:((x.den:Nat):Rat)=((0:Nat):Rat):=e
  have:=Rat.natCast_inj.1 this
  have:=x.den_pos
  omega
 have hx:=eR x;refine Nat.dvd_antisymm ?_ ?_
 ·-- e=(S x).den: e S num/d whole,so d ∣ e S
  have h1:=eR ((S:Rat)*x);generalize hE:((S:Rat)*x).den=E at *;generalize ((S:Rat)*x).num=u at h1;have h2:(((E*S:Nat):Int)*x.num:Int)=u*(x.den:Int):=by
   refine Rat.intCast_inj.1 ?_;rw[Rat.intCast_mul,Rat.intCast_mul,<-hx,<-h1,Rat.intCast_natCast,Rat.intCast_natCast,Rat.natCast_mul];grind
  have h3:x.den ∣ E*S*x.num.natAbs:=by
   have h4:(x.den:Int) ∣ ((E*S:Nat):Int)*x.num:=⟨u,by rw[h2,Int.mul_comm]⟩;have:=Int.natAbs_dvd_natAbs.2 h4
   rw[Int.natAbs_mul,Int.natAbs_natCast,Int.natAbs_natCast]at this;exact this
  obtain ⟨t,ht⟩:=Nat.Coprime.dvd_of_dvd_mul_right (Nat.Coprime.symm x.reduced) h3;refine qP (z:=t) ?_;have h5:((E*S:Nat):Rat)=((x.den*t:Nat):Rat):=congrArg _ ht;rw[Rat.natCast_mul,Rat.natCast_mul]at h5;rw[Rat.div_def,<-Rat.mul_assoc,h5,Rat.intCast_natCast];have:=Rat.mul_inv_cancel _ Bl
  grind
 ·have h1:=eR ((S:Rat)/(x.den:Rat))
  generalize ((S:Rat)/(x.den:Rat)).num=u at h1;generalize ((S:Rat)/(x.den:Rat)).den=E at *;refine qP (z:=u*x.num) ?_;rw[Rat.intCast_mul,<-h1,<-hx,Rat.div_def];have:=Rat.mul_inv_cancel _ Bl
  grind
theorem Ajm {a:List (List Rat)}:GI a=true ↔ ∀ r∈a,C5 r<=1/2:=by
 rw[GI,List.all_eq_true];exact ⟨λ h r hr=>by simpa using h r hr,λ h r hr=>by simpa using h r hr⟩
theorem Agg {f:Nat->Rat} {c:Rat} : ∀ n,BC (λ j=>c*f j) n=c*BC f n
 | 0=>by simp only[BC];grind
 | n+1=>by simp only[BC,Agg n];grind
theorem AiQ {k:Nat} {x:Rat} {S:Nat} (hS:0<S) (wo:S<=2^k) (h:Wh k (x*(S:Rat))):Bt k x:=by
 obtain ⟨z,hz,hk⟩:=h;have h0:(S:Rat)≠0:=λ e=>by
  have:((S:Nat):Rat)=((0:Nat):Rat):=e
  have:=Rat.natCast_inj.1 this
  omega
 have e:x=mkRat z S:=by
  rw[Rat.mkRat_eq_div,<-hz,Rat.div_def,Rat.mul_assoc,Rat.mul_inv_cancel _ h0,Rat.mul_one]
 rw[e];exact Bt.mk hk wo
theorem AqM {k l n:Nat} {a:List (List Rat)} {v:List Rat} (ha : ∀ r∈a,∀ x∈r,Wh k x) (hl : ∀ r∈a,r.length=n) (hv : ∀ x∈v,Wh l x) : ∀ x∈BX a v,Wh (k+l+n) x:=λ x hx=>by
 obtain ⟨r,hr,rfl⟩:=List.mem_map.1 hx;have:=Wh.dot (ha r hr) hv
 rwa [hl r hr]at this
theorem ApY {n k:Nat} {a:List (List Rat)} (hs:Sq n a) (hb:Ms k a) : ∃ S:Nat,BF a.flatten=(S:Rat)/\0<S/\S<=2^(n*n*k) /\ ∀ r∈CU (S:Rat) a,∀ x∈r,Wh (k+n*n*k) x:=by
 have hl:a.flatten.length=n*n:=by
  have : ∀ (a:List (List Rat)),(∀ r∈a,r.length=n)->a.flatten.length=a.length*n:=by
   intro a;induction a with
   | nil=>intro _;simp
   | cons r a ih =>
    intro h;rw[List.flatten_cons,List.length_append,ih λ x hx=>h x (List.mem_cons_of_mem _ hx),h r List.mem_cons_self,List.length_cons,Nat.succ_mul,Nat.add_comm]
  rw[this a hs.r,hs.l]
 have hbf:Bs k a.flatten:=λ x hx=>by
  obtain ⟨r,hr,hx⟩:=List.mem_flatten.1 hx;exact hb r hr x hx
 obtain ⟨S,e,h1,h2,h3⟩:=AfH hbf;rw[hl]at h2;refine ⟨S,e,h1,h2,λ r hr x hx => ?_⟩;obtain ⟨s,hs,rfl⟩:=List.mem_map.1 hr;obtain ⟨y,hy,rfl⟩:=List.mem_map.1 hx;obtain ⟨z,hz⟩:=h3 y (List.mem_flatten.2 ⟨s,hs,hy⟩);exact AqN (hb s hs y hy) hz h2
def lI (n:Nat) (a:List (List Rat)) (i:Nat):Prop:=GI (DN n a i)=true /\ ∀ j,j<i->GI (DN n a j)=false
def FB (k:Nat):Nat->Nat
 | 0=>17*k
 | i+1=>FB k i+FB k i+4
theorem AqV {k:Nat} : ∀ i,i<=7->FB k i<=2176*k+508:=by
 intro i hi;have h1:FB k 0=17*k:=rfl;have e1:FB k 1=FB k 0+FB k 0+4:=rfl;have e2:FB k 2=FB k 1+FB k 1+4:=rfl;have e3:FB k 3=FB k 2+FB k 2+4:=rfl;have e4:FB k 4=FB k 3+FB k 3+4:=rfl;have e5:FB k 5=FB k 4+FB k 4+4:=rfl;have e6:FB k 6=FB k 5+FB k 5+4:=rfl;have e7:FB k 7=FB k 6+FB k 6+4:=rfl;obtain rfl|rfl|rfl|rfl|rfl|rfl|rfl|rfl:i=0\/i=1\/i=2\/i=3\/i=4\/i=5\/i=6\/i=7:=by omega
 all_goals omega
theorem Np {k l n:Nat} {a b:List (List Rat)} (ha : ∀ r∈a,∀ x∈r,Wh k x) (hl : ∀ r∈a,r.length=n) (hb : ∀ r∈b,∀ x∈r,Wh l x) : ∀ r∈C1 a b n,∀ x∈r,Wh (k+l+n) x:=λ r hr x hx=>by
 obtain ⟨s,hs,rfl⟩:=List.mem_map.1 hr;obtain ⟨j,_,rfl⟩:=List.mem_map.1 hx;have hc : ∀ x∈CO b j,Wh l x:=λ x hx=>by
  obtain ⟨t,ht,rfl⟩:=List.mem_map.1 hx;rw[List.getD_eq_getElem?_getD];cases e:t[j]? with
  | none=>exact Wh.zero l
  | some y=>exact hb t ht y (zM e)
 have:=Wh.dot (ha s hs) hc
 rwa [hl s hs]at this
theorem Mw {n k:Nat} {a:List (List Rat)} {D:Nat} (hs:Sq n a) (hn:n<=4) (hA : ∀ r∈CU (D:Rat) a,∀ x∈r,Wh (k+n*n*k) x) : ∀ i,∀ r∈CU (EB (D:Rat) i) (DN n a i),∀ x∈r,Wh (FB k i) x
 | 0=>λ r hr x hx=>(hA r hr x hx).le (by
   show k+n*n*k<=17*k;have:n*n<=4*4:=Nat.mul_le_mul hn hn
   have:=Nat.mul_le_mul_right k this
   omega)
 | i+1=>λ r hr x hx=>by
  rw[<-Af3]at hr;exact (Np (Mw hs hn hA i) (oC _ (Mv hs i).r) (Mw hs hn hA i) r hr x hx).le (by simp only[FB];omega)
theorem wC {D M:Nat} (hD:D<=2^M) : ∀ i,Wh (2^i*M) (EB (D:Rat) i)
 | 0=>⟨(D:Int),by rw[EB,Rat.intCast_natCast],by rw[Nat.pow_zero,Nat.one_mul];simpa using hD⟩
 | i+1=>((wC hD i).mul (wC hD i)).le (by rw[Nat.pow_succ,Nat.mul_two,Nat.add_mul];exact Nat.le_refl _)
theorem Ajn {n i:Nat} {a:List (List Rat)} {D:Rat} (hD:0<D):(∀ r∈CU (EB D i) (DN n a i),C5 r+C5 r<=EB D i)↔GI (DN n a i)=true:=by
 have hp:=vZ hD i;rw[Ajm];constructor
 ·intro h r hr
  have:=h _ (List.mem_map.2 ⟨r,hr,rfl⟩)
  rw[Ou (by grind)]at this;exact (AdE hp).1 this
 ·intro h r hr
  obtain ⟨s,hs,rfl⟩:=List.mem_map.1 hr;rw[Ou (by grind)];exact (AdE hp).2 (h s hs)
theorem Ot {k:Nat} : ∀ {l:List Rat},Bs k l->Bt (l.length*(k+1)) (C5 l)
 | [],_=>Bt.zero _
 | x::l,h=>by
  have h1:=Ot (l:=l) λ y hy=>h y (List.mem_cons_of_mem _ hy)
  have h2:Bt k (H7 x):=by
   unfold H7;split
   ·exact (h x List.mem_cons_self).Ac
   ·exact h x List.mem_cons_self
  refine (h2.add h1).le ?_;rw[List.length_cons,Nat.succ_mul];omega
theorem Aiw {k:Nat} {x:Rat} (h:Bt k x):Bt k (H7 x):=by
 unfold H7;split
 ·exact h.Ac
 ·exact h
end Go.e9

namespace Go.e9
theorem Wh.of_dvd {k S T:Nat} {x:Rat} (hT:1<=T) (h:Wh k (((S*T:Nat):Rat)*x)) (hz : ∃ z:Int,x*(S:Rat)=(z:Rat)):Wh k (x*(S:Rat)):=by
 obtain ⟨z,hz⟩:=hz;obtain ⟨u,hu,hb⟩:=h;refine ⟨z,hz,?_⟩;have e:((z*(T:Int):Int):Rat)=(u:Rat):=by
  rw[Rat.intCast_mul,<-hz,<-hu,Rat.natCast_mul,Rat.intCast_natCast];grind
 have e2:=Rat.intCast_inj.1 e;have:z.natAbs*T=u.natAbs:=by rw[<-e2,Int.natAbs_mul,Int.natAbs_natCast]
 have h2:z.natAbs<=z.natAbs*T:=Nat.le_mul_of_pos_right _ (by omega);omega
theorem AfI {M k m:Nat} {l:List Rat} (hM:1<=M) (hm:M<=2^m) (h : ∀ x∈l,Wh k ((M:Rat)*x)):Wh m (BF l) /\ ∀ x∈l,Wh k (x*BF l):=by
 obtain ⟨S,e,⟨T,hT⟩,hz⟩:=ApM (M:=M) (l:=l) λ x hx=>by
  obtain ⟨z,hz,_⟩:=h x hx;exact ⟨z,hz⟩
 have Hw:1<=T:=by
  rcases Nat.eq_zero_or_pos T with h0|h0
  ·rw[h0]at hT;omega
  ·exact h0
 refine ⟨⟨(S:Int),by rw[e,Rat.intCast_natCast],?_⟩,λ x hx => ?_⟩
 ·rw[Int.natAbs_natCast]
  have:S<=S*T:=Nat.le_mul_of_pos_right _ (by omega)
  omega
 ·have h1:=h x hx
  rw[hT]at h1;rw[e];exact Wh.of_dvd Hw h1 (by rw[<-e];exact hz x hx)
section
variable {M ky:Nat} {g:List Pt}
end
end Go.e9

namespace Go.e9
set_option maxHeartbeats 8000000
theorem fS {M k:Nat} {a b:Int} {T:Int} (hb:1<=b) (hT:b*T=(M:Int)) (ha:(T*a).natAbs<=2^k):Wh k ((M:Rat)*Rat.divInt a b):=by
 refine ⟨T*a,?_,ha⟩;have h0:(b:Rat)≠0:=λ e=>by
  have:(b:Rat)=((0:Int):Rat):=e
  have:=Rat.intCast_inj.1 this
  omega
 have h1:=Rat.div_mul_cancel h0 (a:=(a:Rat));rw[Rat.divInt_eq_div,show ((M:Nat):Rat)=((b*T:Int):Rat) by rw[hT,Rat.intCast_natCast],Rat.intCast_mul,Rat.intCast_mul];generalize (a:Rat)/(b:Rat)=q at *;rw[<-h1];grind
theorem AqK {a b:Int} (ha : -12<=a/\a<=12) (hb:1<=b/\b<=8):Wh 14 (((840:Nat):Rat)*Rat.divInt a b):=by
 have:b=1\/b=2\/b=3\/b=4\/b=5\/b=6\/b=7\/b=8:=by omega
 rcases this with rfl|rfl|rfl|rfl|rfl|rfl|rfl|rfl
 ·exact fS (T:=840) (by omega) (by decide) (by omega)
 ·exact fS (T:=420) (by omega) (by decide) (by omega)
 ·exact fS (T:=280) (by omega) (by decide) (by omega)
 ·exact fS (T:=210) (by omega) (by decide) (by omega)
 ·exact fS (T:=168) (by omega) (by decide) (by omega)
 ·exact fS (T:=140) (by omega) (by decide) (by omega)
 ·exact fS (T:=120) (by omega) (by decide) (by omega)
 ·exact fS (T:=105) (by omega) (by decide) (by omega)
theorem Bt.ngN {k:Nat} {x:Rat} (h:Bt k x):Bt k (-x):=⟨by rw[Rat.neg_num,Int.natAbs_neg];exact h.1,by rw[Rat.neg_den];exact h.2⟩
def Ul (n i j:Nat):Nat:=i*n-i*(i-1)/2+j-i
def GD (i m:Nat):List (Nat × Nat):=(List.range m).map λ t=>(i,i+t)
def BM (n:Nat):Nat->List (Nat × Nat)
 | 0=>[]
 | i+1=>BM n i++GD i (n-i)
theorem Ao3 (i m:Nat):GD i (m+1)=GD i m++[(i,i+m)]:=by
 rw[GD,List.range_succ,List.map_append];rfl
theorem Ns (i m:Nat):(GD i m).length=m:=by simp [GD]
theorem zZ {n:Nat} : ∀ {m i j:Nat},(i,j)∈BM n m->i<m/\i<=j/\j<n
 | 0,_,_,h=>by cases h
 | m+1,i,j,h=>by
  rcases List.mem_append.1 h with h|h
  ·have:=zZ h;omega
  ·obtain ⟨t,ht,e⟩:=List.mem_map.1 h
   have:=List.mem_range.1 ht
   have h1:=congrArg Prod.fst e;have h2:=congrArg Prod.snd e;simp only at h1 h2;omega
theorem cD {n:Nat} (h:n<=3):n=0\/n=1\/n=2\/n=3:=by omega
theorem sM {n:Nat} (hn:n<=3):(BM n n).length<=6:=by
 rcases cD hn with rfl|rfl|rfl|rfl<;>decide
def gC (A:List (List Rat)) (p q:Nat × Nat):Rat :=
 if q=p then (if q.1=q.2 then -(A5 A p.1 q.1*A5 A p.2 q.2) else -(A5 A p.1 q.1*A5 A p.2 q.2)-A5 A p.1 q.2*A5 A p.2 q.1)+1
 else if q.1=q.2 then -(A5 A p.1 q.1*A5 A p.2 q.2) else -(A5 A p.1 q.1*A5 A p.2 q.2)-A5 A p.1 q.2*A5 A p.2 q.1
def FW (A:List (List Rat)) (n:Nat) (p:Nat × Nat):List Rat:=(BM n n).map (gC A p)
def gM (A:List (List Rat)) (n:Nat):List (List Rat):=(BM n n).map (FW A n)
def bQ (B:List Rat) (i:Nat):Rat:=B.getD i 0
theorem uS {B:List Rat} {i:Nat} {x:Rat} (h:B[i]? = some x):bQ B i=x:=by rw[bQ,List.getD_eq_getElem?_getD,h];rfl
def gR (B:List Rat) (n:Nat):List Rat:=(BM n n).map λ p=>bQ B p.1*bQ B p.2
theorem OE {k:Nat} {A:List (List Rat)} (h:Ms k A) (i j:Nat):Bt k (A5 A i j):=by
 cases e:A[i]? with
 | none =>
  rw[A5,show A.getD i []=[] by rw[List.getD_eq_getElem?_getD,e];rfl];exact Bt.zero k
 | some r =>
  rw[OG e];exact Bs.getD (h.at e) j
theorem gY {n:Nat} (A:List (List Rat)):Sq (BM n n).length (gM A n):=⟨by simp [gM],λ r hr=>by
 obtain ⟨p,_,rfl⟩:=List.mem_map.1 hr;simp [FW]⟩
theorem xW (B:List Rat) (n:Nat):(gR B n).length=(BM n n).length:=by simp [gR]
theorem Adx {M k:Nat} {A:List (List Rat)} (h : ∀ i j,Wh k ((M:Rat)*A5 A i j)) (hM:M<=2^k) {n:Nat} : ∀ r∈gM A n,∀ x∈r,Wh (2*k+2) (((M*M:Nat):Rat)*x):=λ r hr x hx=>by
 obtain ⟨p,_,rfl⟩:=List.mem_map.1 hr;obtain ⟨q,_,rfl⟩:=List.mem_map.1 hx;have h1:=(h p.1 q.1).mul (h p.2 q.2);have h2:=(h p.1 q.2).mul (h p.2 q.1);have h3:Wh (k+k) (((M*M:Nat):Rat)):=⟨((M*M:Nat):Int),by rw[Rat.intCast_natCast],by
  rw[Int.natAbs_natCast,Nat.pow_add];exact Nat.mul_le_mul hM hM⟩
 have e1:(M:Rat)*A5 A p.1 q.1*((M:Rat)*A5 A p.2 q.2)=((M*M:Nat):Rat)*(A5 A p.1 q.1*A5 A p.2 q.2):=by rw[Rat.natCast_mul];grind
 have e2:(M:Rat)*A5 A p.1 q.2*((M:Rat)*A5 A p.2 q.1)=((M*M:Nat):Rat)*(A5 A p.1 q.2*A5 A p.2 q.1):=by rw[Rat.natCast_mul];grind
 rw[e1]at h1;rw[e2]at h2;unfold gC;generalize A5 A p.1 q.1*A5 A p.2 q.2=u at *;generalize A5 A p.1 q.2*A5 A p.2 q.1=v at *;generalize ((M*M:Nat):Rat)=w at *;split<;>split
 ·rw[show w*(-u+1) = -(w*u)+w by grind]
  exact (h1.neg.add h3).le (by omega)
 ·rw[show w*(-u-v+1) = -(w*u)-w*v+w by grind]
  exact ((h1.neg.sub h2).add (h3.le (Nat.le_succ _))).le (by omega)
 ·rw[show w * -u = -(w*u) by grind]
  exact h1.neg.le (by omega)
 ·rw[show w*(-u-v) = -(w*u)-w*v by grind]
  exact (h1.neg.sub h2).le (by omega)
def kM (X:List Rat) (n:Nat):List (List Rat):=(List.range n).map λ i=>(List.range n).map λ j=>X.getD (Ul n (min i j) (max i j)) 0
theorem jZ (X:List Rat) (n:Nat):Sq n (kM X n):=⟨by simp [kM],λ r hr=>by
 obtain ⟨i,_,rfl⟩:=List.mem_map.1 hr;simp⟩
theorem jX (X:List Rat) {n i j:Nat} (hi:i<n) (hj:j<n):A5 (kM X n) i j=X.getD (Ul n (min i j) (max i j)) 0:=by
 rw[OG (r:=(List.range n).map λ j=>X.getD (Ul n (min i j) (max i j)) 0) (by rw[kM,List.getElem?_map,List.getElem?_range hi];rfl),List.getD_eq_getElem?_getD,List.getElem?_map,List.getElem?_range hj];rfl
theorem An2 (X:List Rat) {n i j:Nat} (hi:i<n) (hj:j<n):A5 (kM X n) i j=A5 (kM X n) j i:=by
 rw[jX X hi hj,jX X hj hi,Nat.min_comm,Nat.max_comm]
theorem jY {k:Nat} {X:List Rat} (h:Bs k X) (n:Nat):Ms k (kM X n):=λ r hr=>by
 obtain ⟨i,_,rfl⟩:=List.mem_map.1 hr;intro x hx;obtain ⟨j,_,rfl⟩:=List.mem_map.1 hx;exact Bs.getD h _
def JT (A K:List (List Rat)) (n i j:Nat):Rat:=BC (λ a=>BC (λ b=>A5 A i a*A5 A j b*A5 K a b) n) n
def HD (A:List (List Rat)) (B X:List Rat) (n:Nat):Prop:=X.length=(BM n n).length /\ ∀ (i:Nat) (r:List Rat) (s:Rat),(gM A n)[i]? = some r->(gR B n)[i]? = some s->AZ r X=s
theorem HD.eq {A:List (List Rat)} {B X:List Rat} {n:Nat} (hn:n<=3) (h:HD A B X n) : ∀ i j,i<n->j<n->A5 (kM X n) i j=bQ B i*bQ B j+JT A (kM X n) n i j:=by
 obtain ⟨hl,h⟩:=h;rcases cD hn with rfl|rfl|rfl|rfl
 ·intro i j hi;omega
 ·obtain ⟨x0,rfl⟩ : ∃ x0,X=[x0]:=by
   match X,hl with
   | [x0],_=>exact ⟨x0,rfl⟩
  have h0:=h 0 _ _ rfl rfl;simp [AZ,FW,gC,BM,GD,List.range_succ]at h0;intro i j hi hj;obtain rfl:i=0:=by omega
  obtain rfl:j=0:=by omega
  simp only[JT,BC,jX _ (show 0<1 by omega) (show 0<1 by omega)];show x0=_+(0+(0+_*x0));grind
 ·obtain ⟨x0,x1,x2,rfl⟩ : ∃ x0 x1 x2,X=[x0,x1,x2]:=by
   match X,hl with
   | [x0,x1,x2],_=>exact ⟨x0,x1,x2,rfl⟩
  have h0:=h 0 _ _ rfl rfl;have h1:=h 1 _ _ rfl rfl;have h2:=h 2 _ _ rfl rfl;simp [AZ,FW,gC,BM,GD,List.range_succ]at h0 h1 h2;have key : ∀ i j,i<2->j<2->A5 (kM [x0,x1,x2] 2) i j=if i=0 then (if j=0 then x0 else x1) else (if j=0 then x1 else x2):=by
   intro i j hi hj;rw[jX _ hi hj];obtain rfl|rfl:i=0\/i=1:=by omega
   all_goals obtain rfl|rfl:j=0\/j=1:=by omega
   all_goals rfl
  intro i j hi hj;rw[key i j hi hj];simp only[JT,BC,key 0 0 (by omega) (by omega),key 0 1 (by omega) (by omega),key 1 0 (by omega) (by omega),key 1 1 (by omega) (by omega)];obtain rfl|rfl:i=0\/i=1:=by omega
  all_goals obtain rfl|rfl:j=0\/j=1:=by omega
  all_goals simp
  all_goals grind
 ·obtain ⟨x0,x1,x2,x3,x4,x5,rfl⟩ : ∃ x0 x1 x2 x3 x4 x5,X=[x0,x1,x2,x3,x4,x5]:=by
   match X,hl with
   | [x0,x1,x2,x3,x4,x5],_=>exact ⟨x0,x1,x2,x3,x4,x5,rfl⟩
  have h0:=h 0 _ _ rfl rfl;have h1:=h 1 _ _ rfl rfl;have h2:=h 2 _ _ rfl rfl;have h3:=h 3 _ _ rfl rfl;have h4:=h 4 _ _ rfl rfl;have h5:=h 5 _ _ rfl rfl;clear h hl;simp [AZ,FW,gC,BM,GD,List.range_succ]at h0 h1 h2 h3 h4 h5;have key : ∀ i j,i<3->j<3->A5 (kM [x0,x1,x2,x3,x4,x5] 3) i j=if i=0 then (if j=0 then x0 else if j=1 then x1 else x2) else if i=1 then (if j=0 then x1 else if j=1 then x3 else x4) else (if j=0 then x2 else if j=1 then x4 else x5):=by
   intro i j hi hj;rw[jX _ hi hj];obtain rfl|rfl|rfl:i=0\/i=1\/i=2:=by omega
   all_goals obtain rfl|rfl|rfl:j=0\/j=1\/j=2:=by omega
   all_goals rfl
  intro i j hi hj;rw[key i j hi hj];simp only[JT,BC,key 0 0 (by omega) (by omega),key 0 1 (by omega) (by omega),key 0 2 (by omega) (by omega),key 1 0 (by omega) (by omega),key 1 1 (by omega) (by omega),key 1 2 (by omega) (by omega),key 2 0 (by omega) (by omega),key 2 1 (by omega) (by omega),key 2 2 (by omega) (by omega)];obtain rfl|rfl|rfl:i=0\/i=1\/i=2:=by omega
  all_goals obtain rfl|rfl|rfl:j=0\/j=1\/j=2:=by omega
  all_goals simp
  ·clear h1 h2 h3 h4 h5;grind
  ·clear h0 h2 h3 h4 h5;grind
  ·clear h0 h1 h3 h4 h5;grind
  ·clear h0 h2 h3 h4 h5;grind
  ·clear h0 h1 h2 h4 h5;grind
  ·clear h0 h1 h2 h3 h5;grind
  ·clear h0 h1 h3 h4 h5;grind
  ·clear h0 h1 h2 h3 h5;grind
  ·clear h0 h1 h2 h3 h4;grind
theorem HD.uniq {A:List (List Rat)} {B X Y:List Rat} {n:Nat} (hx:HD A B X n) (hy:HD A B Y n) (hs:NS (BM n n).length (gM A n)):X=Y:=by
 have h1:=hs (dY X (Y.map (-1 * ·))) (by simp [dY,hx.1,hy.1]) (λ r hr=>by
  obtain ⟨i,hi⟩:=List.getElem?_of_mem hr;have eb:=(zS hi).1;obtain ⟨s,hs⟩ : ∃ s,(gR B n)[i]? = some s:=⟨_,zE (by rw[xW];rw[(gY A).l]at eb;exact eb)⟩;have e1:=hx.2 i r s hi hs;have e2:=hy.2 i r s hi hs;rw[wD (by simp [hx.1,hy.1]),FU r (Y.map _),jQ,FU Y r,e1,e2];grind)
 refine List.ext_getElem? λ i => ?_
 by_cases hi:i<(BM n n).length
 ·obtain ⟨x,nq⟩ : ∃ x,X[i]? = some x:=⟨_,zE (by rw[hx.1];exact hi)⟩
  obtain ⟨y,Dq⟩ : ∃ y,Y[i]? = some y:=⟨_,zE (by rw[hy.1];exact hi)⟩;have h2:=h1 i;rw[List.getD_eq_getElem?_getD,dY,List.getElem?_zipWith,nq,List.getElem?_map,Dq]at h2;have h3:x + -1*y=0:=h2;rw[nq,Dq,show x=y by grind]
 ·rw[List.getElem?_eq_none (by rw[hx.1];omega),List.getElem?_eq_none (by rw[hy.1];omega)]
def gU (M:List (List (Option Rat))) (i j:Nat) (x:Rat):List (List (Option Rat)):=(M.set i ((M.getD i []).set j (some x))).set j (((M.set i ((M.getD i []).set j (some x))).getD j []).set i (some x))
def XQ (X:List Rat) (n:Nat):Nat->List (List (Option Rat))
 | 0=>List.replicate n (List.replicate n none)
 | u+1=>gU (XQ X n u) ((BM n n).getD u (0,0)).1 ((BM n n).getD u (0,0)).2 (X.getD u 0)
theorem AmJ {n i j:Nat} {M:List (List (Option Rat))} {x:Rat} (h:M.length=n /\ ∀ r∈M,r.length=n) (hi:i<n) (hj:j<n):(gU M i j x).length=n /\ ∀ r∈gU M i j x,r.length=n:=by
 have hg : ∀ (M:List (List (Option Rat))) (i:Nat),M.length=n->(∀ r∈M,r.length=n)->i<n->(M.getD i []).length=n:=λ M i h1 h2 h3=>by
  rw[List.getD_eq_getElem?_getD,zE (by omega)];exact h2 _ (List.getElem_mem _)
 have h1:(M.set i ((M.getD i []).set j (some x))).length=n /\ ∀ r∈M.set i ((M.getD i []).set j (some x)),r.length=n:=⟨by rw[List.length_set,h.1],λ r hr=>by
  rcases List.mem_or_eq_of_mem_set hr with hr|rfl
  ·exact h.2 r hr
  ·rw[List.length_set,hg M i h.1 h.2 hi]⟩
 refine ⟨by rw[gU,List.length_set];exact h1.1,λ r hr => ?_⟩;rcases List.mem_or_eq_of_mem_set hr with hr|rfl
 ·exact h1.2 r hr
 ·rw[List.length_set,hg _ j h1.1 h1.2 hj]
theorem AmG {X:List Rat} {n:Nat} (hn:n<=3) (h:X.length=(BM n n).length):XQ X n (BM n n).length=(kM X n).map (·.map some):=by
 rcases cD hn with rfl|rfl|rfl|rfl
 ·rfl
 ·match X,h with
  | [x0],_=>rfl
 ·match X,h with
  | [x0,x1,x2],_=>rfl
 ·match X,h with
  | [x0,x1,x2,x3,x4,x5],_=>rfl
end Go.e9

namespace Go.e9
open F
attribute [local irreducible] AA AF AM AC CK AR AW BD A7 BW AQ BT CD DB BP A4 BO CE AB A8 AJ pw B4 BK CF CI CN CX CJ BS CM
attribute [local irreducible] XG
variable {L:Lib}
set_option maxHeartbeats 16000000
set_option maxRecDepth 8000
abbrev eG (p:Nat × Nat):List AV:=[.int .i64 ((p.1:Nat):Int),.int .i64 ((p.2:Nat):Int)]
theorem Ai2 (l:List (Nat × Nat)):F2 (l.map eG):=jM (λ p=>by simp only[CW,A6,and_true]) l
theorem Ao2 {n i:Nat} (hi:i<n):(BM n (i+1)).length=(BM n i).length+(n-i):=by
 show (BM n i++GD i (n-i)).length=_;rw[List.length_append,Ns]
theorem Nr (n:Nat) {i:Nat} : ∀ d,(BM n i).length<=(BM n (i+d)).length
 | 0=>Nat.le_refl _
 | d+1=>by
  refine Nat.le_trans (Nr n d) ?_;show _<=(BM n (i+d)++GD (i+d) (n-(i+d))).length;rw[List.length_append];omega
theorem Yc (N:dw L) (q1 q2 q3:Bool) (A:List (List Rat)) (b:List Rat) (n:Nat) (hA:A.length=n) (hn:n<=3):Ev L 321 [.agg [.sl q1 (CZ q2 A),.sl q3 (b.map eQ)]] (.sl false ((BM n n).map eG)):=by
 have hlen:=sM hn;refine Ev.x N.Y3 rfl rfl ?_;(repeat' ((first|apply AU|apply AE)<;>conv=>whnf))
 refine B6 (λ i=>n-i) (λ(i:Nat)=>i<=n) (λ i=>[(9,.int .i64 i),(3,.row 3 0 2 0 (BM n i).length)]) (λ i=>[(3,3,.rw 2 ((BM n i).map eG))]) [] [] 0 (by (conv=>whnf);exact ⟨rfl,rfl,rfl⟩) (by omega) ?_;intro i p1 ih;have Rx:=Nr n (i:=i) (n-i);rw[show i+(n-i)=n by omega]at Rx;by_cases hi:i<n
 ·have hS:=Ao2 hi
  have Ry:=Nr n (i:=i+1) (n-(i+1));rw[show i+1+(n-(i+1))=n by omega]at Ry;(repeat' ((first|(apply AG<;>intro hc<;>try (exfalso;omega))|apply AE)<;>conv=>whnf))
  refine B6 (λ t=>n-i-t) (λ(t:Nat)=>t<=n-i) (λ t=>[(5,.int .i64 ((i+t:Nat):Int)),(3,.row 3 0 2 0 ((BM n i).length+t))]) (λ t=>[(3,3,.rw 2 ((BM n i++GD i t).map eG))]) [] [] 0 (by first|exact (by (conv=>whnf);exact ⟨rfl,rfl,rfl⟩)|(rw[show GD i 0=[] from rfl,List.append_nil];exact (by (conv=>whnf);exact ⟨rfl,rfl,rfl⟩))) (by omega) ?_;intro t p2 th;by_cases ht:t<n-i
  ·have Gy:=Ao3 i t
   have ma:(BM n i++GD i t).length=(BM n i).length+t:=by rw[List.length_append,Ns]
   have Bh:BM n i++GD i (t+1)=(BM n i++GD i t)++[(i,i+t)]:=by rw[Gy,List.append_assoc]
   generalize BM n i++GD i t=R0 at *;(repeat' ((first|(apply AG<;>intro hc<;>try (exfalso;omega))|apply AU|apply EL|apply AE)<;>conv=>whnf))
   refine E6 (enc:=eG) (i,i+t) rfl (by omega) rfl (by omega) (by omega) ?_;(conv=>whnf)
   rw[<-Bh,show (BM n i++GD i (t+1)).length=(BM n i).length+(t+1) by rw[List.length_append,Ns]];(repeat' ((first|(apply AX;omega)|fail)<;>conv=>whnf))
   exact BL [(3,25)] (th (t+1) (by omega) (by omega))
  ·have et:t=n-i:=by omega
   clear th;have e1:BM n i++GD i t=BM n (i+1):=by rw[et];rfl
   have e2:(BM n i).length+t=(BM n (i+1)).length:=by rw[hS,et]
   rw[e1,e2];(repeat' ((first|(apply AG<;>intro hc<;>try (exfalso;omega))|(apply AX;omega)|apply AU|apply AE)<;>conv=>whnf))
   exact BL [] (ih (i+1) (by omega) (by omega))
 ·obtain rfl:i=n:=by omega
  clear ih;(repeat' ((first|(apply AG<;>intro hc<;>try (exfalso;omega))|(refine DR (λ_=>rfl) rfl ?_ ?_;(first|rfl|simp))|apply AE)<;>conv=>whnf))
  exact AY rfl (by simp only[A6];exact ⟨trivial,Ai2 _⟩)
theorem sV {A:List (List Rat)} {n i:Nat} (hA:Sq n A) (hi:i<n) : ∃ r,A[i]? = some r/\r.length=n /\ ∀ j,j<n->r[j]? = some (A5 A i j):=by
 obtain ⟨r,hr⟩ : ∃ r,A[i]? = some r:=⟨_,zE (by rw[hA.l];exact hi)⟩;have hl:=hA.at hr;refine ⟨r,hr,hl,λ j hj => ?_⟩;rw[OG hr,List.getD_eq_getElem?_getD,zE (by omega)];rfl
theorem gF {B:List Rat} {n i:Nat} (hB:B.length=n) (hi:i<n):B[i]? = some (bQ B i):=by
 rw[bQ,List.getD_eq_getElem?_getD,zE (by omega)];rfl
theorem sL {n u i j:Nat} (h:(BM n n)[u]? = some (i,j)):i<n/\j<n/\i<=j:=by
 have:=zZ (zM h)
 omega
theorem oJ {α:Type} {l:List α} {i:Nat} {x:α} (h:l[i]? = some x):l.take (i+1)=l.take i++[x]:=by rw[List.take_add_one,h];rfl
theorem oR {a b c d:Nat} {K:Bool->Prop} (hk:K (decide ((a,b)=(c,d)))):XG 2 (eG (a,b)) (eG (c,d)) K:=by
 unfold XG;refine ⟨[(a:Int),(b:Int)],[(c:Int),(d:Int)],rfl,rfl,rfl,rfl,?_⟩;have:decide ([(a:Int),(b:Int)]=[(c:Int),(d:Int)])=decide ((a,b)=(c,d)):=by
  apply decide_eq_decide.2;simp
  omega
 rw[this];exact hk
theorem AlG (N:dw L) (q1 q2 q3:Bool) (A:List (List Rat)) (B:List Rat) (n k p1 p2:Nat) (hA:Sq n A) (hB:B.length=n) (Af:Ms k A) (Ks:Bs k B) (hk:k<=1000000) (hn:n<=3) (h1:p1<n) (h2:p2<n) :
  Ev L 322 [.agg [.sl q1 (CZ q2 A),.sl q3 (B.map eQ)],.agg (eG (p1,p2))] (.m9 [.sl false ((FW A n (p1,p2)).map eQ),.agg (eQ (bQ B p1*bQ B p2))]):=by
 have hlen:=sM hn;have hP:=λ q1 q2 q3=>Yc N q1 q2 q3 A B n hA.l hn
 obtain ⟨r1,gi,oo,wq⟩:=sV hA h1;obtain ⟨r2,iu,ma,ym⟩:=sV hA h2;have Jr:A[((p1:Nat):Int).toNat]? = some r1:=gi;have AFZ:A[((p2:Nat):Int).toNat]? = some r2:=iu;have El:B[((p1:Nat):Int).toNat]? = some (bQ B p1):=gF hB h1;have AFc:B[((p2:Nat):Int).toNat]? = some (bQ B p2):=gF hB h2;have hMb:=FV N.toa5 (Bs.at Ks (gF hB h1)) (Bs.at Ks (gF hB h2)) (by omega) (by omega);refine Ev.x N.Y2 rfl rfl ?_;(repeat' ((first|apply AU|apply AE|refine AD (hP _ _ _) ?_)<;>conv=>whnf))
 refine B6 (λ u=>(BM n n).length-u) (λ(u:Nat)=>u<=(BM n n).length) (λ u=>[(13,.int .i64 u),(6,.row 6 0 3 0 u)]) (λ u=>[(6,6,.rw 3 (((FW A n (p1,p2)).take u).map eQ))]) [] [] 0 (by (conv=>whnf);exact ⟨rfl,rfl,rfl⟩) (by omega) ?_;intro u u1 uh;have hgl:(FW A n (p1,p2)).length=(BM n n).length:=by simp [FW]
 by_cases hu:u<(BM n n).length
 ·obtain ⟨⟨i,j⟩,iw⟩ : ∃ p,(BM n n)[u]? = some p:=⟨_,zE hu⟩
  have Iu:(BM n n)[((u:Nat):Int).toNat]? = some (i,j):=iw;obtain ⟨g1,g2,g3⟩:=sL iw;have zl:(FW A n (p1,p2))[u]? = some (gC A (p1,p2) (i,j)):=by rw[FW,List.getElem?_map,iw];rfl
  have Gy:=oJ zl;have fm:((FW A n (p1,p2)).take u).length=u:=by rw[List.length_take];omega
  have a1:r1[((i:Nat):Int).toNat]? = some (A5 A p1 i):=wq i g1;have a2:r2[((j:Nat):Int).toNat]? = some (A5 A p2 j):=ym j g2;have a3:r1[((j:Nat):Int).toNat]? = some (A5 A p1 j):=wq j g2;have a4:r2[((i:Nat):Int).toNat]? = some (A5 A p2 i):=ym i g1;have b1:=OE Af p1 i;have b2:=OE Af p2 j;have b3:=OE Af p1 j;have b4:=OE Af p2 i;have m1:=FV N.toa5 b1 b2 (by omega) (by omega);have n1:=Xz N.toal (b1.mul b2) (by omega);have c1:=(b1.mul b2).ngN;have Aj:gC A (p1,p2) (i,j)=if (i,j)=(p1,p2) then (if i=j then -(A5 A p1 i*A5 A p2 j) else -(A5 A p1 i*A5 A p2 j)-A5 A p1 j*A5 A p2 i)+1 else if i=j then -(A5 A p1 i*A5 A p2 j) else -(A5 A p1 i*A5 A p2 j)-A5 A p1 j*A5 A p2 i:=rfl
  generalize gC A (p1,p2) (i,j)=gc at *;generalize (FW A n (p1,p2)).take u=R0 at *;have hO:=HL N.toa5 1 (by omega);by_cases hd:i=j
  ·rw[if_pos hd]at Aj
   have ad:=cW N.toa5 c1 (Bt.one 0) (by omega) (by omega);by_cases he:(i,j)=(p1,p2)
   ·have Bm:decide ((i,j)=(p1,p2))=true:=decide_eq_true he
    rw[if_pos he]at Aj;(repeat' ((first|(apply AG<;>intro hc<;>try (exfalso;omega))|(refine BH (by assumption) ?_ rfl ?_;omega)|apply AE|refine AD (m1) ?_|refine AD (n1) ?_)<;>conv=>whnf))
    ·refine oR ?_
     rw[Bm];(conv=>whnf)
     (repeat' ((first|apply EL|refine AD (hO) ?_|refine AD (ad) ?_)<;>conv=>whnf))
     refine E6 (enc:=eQ) _ rfl fm.symm rfl (by omega) (by omega) ?_;rw[<-Aj,<-Gy,show ((FW A n (p1,p2)).take (u+1)).length=u+1 by rw[List.length_take];omega];(conv=>whnf)
     (repeat' ((first|(apply AX;omega)|fail)<;>conv=>whnf))
     exact BL [(6,76)] (uh (u+1) (by omega) (by omega))
   ·have Bm:decide ((i,j)=(p1,p2))=false:=decide_eq_false he
    rw[if_neg he]at Aj;(repeat' ((first|(apply AG<;>intro hc<;>try (exfalso;omega))|(refine BH (by assumption) ?_ rfl ?_;omega)|apply AE|refine AD (m1) ?_|refine AD (n1) ?_)<;>conv=>whnf))
    ·refine oR ?_
     rw[Bm];(conv=>whnf)
     (repeat' (apply EL<;>conv=>whnf))
     refine E6 (enc:=eQ) _ rfl fm.symm rfl (by omega) (by omega) ?_;rw[<-Aj,<-Gy,show ((FW A n (p1,p2)).take (u+1)).length=u+1 by rw[List.length_take];omega];(conv=>whnf)
     (repeat' ((first|(apply AX;omega)|fail)<;>conv=>whnf))
     exact BL [(6,76)] (uh (u+1) (by omega) (by omega))
  ·rw[if_neg hd]at Aj
   have m2:=FV N.toa5 b3 b4 (by omega) (by omega);have s2:=rD N.tocp c1 (b3.mul b4) (by omega) (by omega);have ad:=cW N.toa5 (c1.rn (b3.mul b4)) (Bt.one 0) (by omega) (by omega);by_cases he:(i,j)=(p1,p2)
   ·have Bm:decide ((i,j)=(p1,p2))=true:=decide_eq_true he
    rw[if_pos he]at Aj;(repeat' ((first|(apply AG<;>intro hc<;>try (exfalso;omega))|(refine BH (by assumption) ?_ rfl ?_;omega)|apply AE|refine AD (m1) ?_|refine AD (n1) ?_|refine AD (m2) ?_|refine AD (s2) ?_)<;>conv=>whnf))
    ·refine oR ?_
     rw[Bm];(conv=>whnf)
     (repeat' ((first|apply EL|refine AD (hO) ?_|refine AD (ad) ?_)<;>conv=>whnf))
     refine E6 (enc:=eQ) _ rfl fm.symm rfl (by omega) (by omega) ?_;rw[<-Aj,<-Gy,show ((FW A n (p1,p2)).take (u+1)).length=u+1 by rw[List.length_take];omega];(conv=>whnf)
     (repeat' ((first|(apply AX;omega)|fail)<;>conv=>whnf))
     exact BL [(6,76)] (uh (u+1) (by omega) (by omega))
   ·have Bm:decide ((i,j)=(p1,p2))=false:=decide_eq_false he
    rw[if_neg he]at Aj;(repeat' ((first|(apply AG<;>intro hc<;>try (exfalso;omega))|(refine BH (by assumption) ?_ rfl ?_;omega)|apply AE|refine AD (m1) ?_|refine AD (n1) ?_|refine AD (m2) ?_|refine AD (s2) ?_)<;>conv=>whnf))
    ·refine oR ?_
     rw[Bm];(conv=>whnf)
     (repeat' (apply EL<;>conv=>whnf))
     refine E6 (enc:=eQ) _ rfl fm.symm rfl (by omega) (by omega) ?_;rw[<-Aj,<-Gy,show ((FW A n (p1,p2)).take (u+1)).length=u+1 by rw[List.length_take];omega];(conv=>whnf)
     (repeat' ((first|(apply AX;omega)|fail)<;>conv=>whnf))
     exact BL [(6,76)] (uh (u+1) (by omega) (by omega))
 ·have eu:u=(BM n n).length:=by omega
  clear uh;rw[List.take_of_length_le (by omega)];(repeat' ((first|(apply AG<;>intro hc<;>try (exfalso;omega))|(refine BH (by assumption) ?_ rfl ?_;omega)|apply AE|refine AD (hMb) ?_)<;>conv=>whnf))
  refine DR (enc:=eQ) (λ_=>rfl) rfl (by omega) ?_;(conv=>whnf)
  refine AY rfl ?_;simp only[A6,CW,and_true,true_and];exact ⟨OK _,CS _,CS _⟩
end Go.e9

namespace Go.e9
open F
attribute [local irreducible] AA AF AM AC CK AR AW BD A7 BW AQ BT CD DB BP A4 BO CE AB A8 AJ pw B4 BK CF CI CN CX CJ BS CM
variable {L:Lib}
set_option maxHeartbeats 16000000
theorem Apa (x:Rat):qv false (dg x.num.natAbs) (dg x.den)=H7 x:=by
 unfold H7;split
 ·rename_i h
  have:=FF (-x)
  rw[Rat.neg_num,Int.natAbs_neg,Rat.neg_den,show decide (-x.num<0)=false from decide_eq_false (by omega)]at this;exact this
 ·rename_i h
  have:=FF x
  rw[show decide (x.num<0)=false from decide_eq_false h]at this;exact this
theorem All (N:ga L) {x:Rat} {k:Nat} (hx:Bt k x) (hk:k<2199023255552):Ev L 256 [.agg (eQ x)] (.agg (eQ (H7 x))):=by
 have hs:=hx.sm hk;have hT:=xG N.toa5 false false false (dg x.num.natAbs) (dg x.den) (hs.1.le (by omega)) (hs.2.le (by omega));rw[Apa]at hT;refine Ev.x N.ZK rfl rfl ?_;(repeat' ((first|apply AE|refine AD (hT) ?_)<;>conv=>whnf))
 exact AY rfl (EE _)
theorem Ak7 (z:Int):eQ (z:Rat)=[.bool (decide (z<0)),.sl false ((dg z.natAbs).map AL),.sl false [[.int .u32 1]]]:=by
 simp only[eQ,rQ,Rat.num_intCast,Rat.den_intCast,vV];rfl
end Go.e9

namespace Go.e9
def S4 (a:List (List Rat)) (w:Nat):List (List Rat):=(List.range w).map (CO a)
theorem Agq (a:List (List Rat)) (w:Nat):(S4 a w).length=w:=by simp [S4]
theorem Agp {a:List (List Rat)} {w i:Nat} (h:i<w):(S4 a w)[i]? = some (CO a i):=by
 simp only[S4,List.getElem?_map,List.getElem?_range h,Option.map_some]
theorem Aqw {a:List (List Rat)} {w n:Nat} (h:a.length=n) : ∀ r∈S4 a w,r.length=n:=λ r hr=>by
 obtain ⟨i,_,rfl⟩:=List.mem_map.1 hr;rw[qH];exact h
end Go.e9

namespace Go.e9
open F
attribute [local irreducible] AA AF AM AC CK AR AW BD A7 BW AQ BT CD DB BP A4 BO CE AB A8 AJ pw B4 BK CF CI CN CX CJ BS CM
variable {L:Lib}
set_option maxHeartbeats 16000000
set_option maxRecDepth 8000
theorem Xa {R:List (Option (Nat × List (List AV)))} {e:Nat} {r:Option (Nat × List (List AV))} {K:Option (Nat × List (List AV))->Prop} (h:R[e]? = some r) (hk:K r):B4 R e K:=by
 unfold B4;exact ⟨r,h,hk⟩
theorem AeP {T:List (List Rat)} {n i:Nat} (hl:T.length=n) (hi:i<n):(mz T n i)[i]? = some none:=by
 have ma:(B7 3 eQ (T.take i)).length=i:=by simp only[B7,List.length_map,List.length_take];omega
 have:=AmM (z:=(none:Option (Nat × List (List AV)))) (l:=B7 3 eQ (T.take i)) (m:=n) (by omega)
 rw[ma]at this;exact this
theorem AlR (N:fi L) (q q':Bool) (a:List (List Rat)) (n w k:Nat) (dh:a.length=n) (har : ∀ r∈a,r.length=w) (hn:1<=n/\n<=52) (hw:1<=w/\w<=52) (ij:Ms k a) (hk:k<2199023255552):Ev L 246 [.sl q (CZ q' a)] (.sl false (eM (S4 a w))):=by
 have ji : ∀ i,i<w->(S4 a w)[i]? = some (CO a i):=λ i h=>Agp h
 have fm:=Agq a w;have Qy : ∀ i,(CO a i).length=n:=λ i=>by simp [CO,dh]
 have hx : ∀ i j,i<w->j<n -> ∃ r x,a[j]? = some r/\r[i]? = some x/\(CO a i)[j]? = some x/\r.length=w/\Bt k x:=λ i j h1 h2=>by
  obtain ⟨r,hr⟩ : ∃ r,a[j]? = some r:=⟨_,zE (by omega)⟩;have gm:=har r (zM hr);obtain ⟨x,hx⟩ : ∃ x,r[i]? = some x:=⟨_,zE (by omega)⟩;exact ⟨r,x,hr,hx,by rw[CO,List.getElem?_map,hr,Option.map_some,List.getD_eq_getElem?_getD,hx];rfl,gm,(ij.at hr).at hx⟩
 obtain ⟨r0,du⟩ : ∃ r,a[0]? = some r:=⟨_,zE (by omega)⟩;have Bw:a[(0:Int).toNat]? = some r0:=du;have ns:=har r0 (zM du);generalize hT:S4 a w=T at *;refine Ev.x N.YB rfl rfl ?_;(repeat' ((first|apply AU|(refine BH (by assumption) ?_ rfl ?_;omega)|apply AE)<;>conv=>whnf))
 unfold CN;refine ⟨⟨by omega,by omega,by simp only[DX];omega,by omega⟩,?_⟩;rw[Int.toNat_natCast,ns];(conv=>whnf)
 skip
 refine B6 (λ i=>w-i) (λ(i:Nat)=>i<=w) (λ i=>[(13,.int .i64 i)]) (λ i=>[(10,10,.mx (mz T w i))]) [] [] 0 (by first|exact (by (conv=>whnf);exact ⟨rfl,rfl,rfl⟩)|(rw[<-kN T];exact (by (conv=>whnf);exact ⟨rfl,rfl,rfl⟩))) (by omega) ?_;intro i p1 ih;have Kj:=kK (Q:=T) p1;by_cases hi:i<w
 ·have o9:=kL (ji i hi) hi
  have Gl:=Qy i;have nj:=AeP fm hi;obtain ⟨r,x,e1,e2,e3,gm,Dp⟩:=hx i 0 hi (by omega);have Dz:a[(0:Int).toNat]? = some r:=e1;have Az:r[(i:Int).toNat]? = some x:=e2;have Gf:=gS N.toa5 Dp hk;have Bj:(CO a i).take 1=[x]:=by rw[List.take_add_one,e3];rfl
  generalize mz T w i=R0 at *;(repeat' ((first|(apply AG<;>intro hc<;>try (exfalso;omega))|apply AU|apply AE)<;>conv=>whnf))
  refine G9 ?_;(repeat' ((first|(apply AG<;>intro hc<;>try (exfalso;omega))|(apply A0;omega)|apply AE)<;>conv=>whnf))
  refine Xa (r:=none) (by rw[Nat.zero_add,Int.toNat_natCast];exact nj) ?_;(conv=>whnf)
  (repeat' ((first|(refine BH (by assumption) ?_ rfl ?_;omega)|apply EL|refine AD (Gf) ?_)<;>conv=>whnf))
  refine lE (enc:=eQ) x rfl rfl (by omega) ?_;(conv=>whnf)
  (repeat' ((first|(apply A0;omega)|fail)<;>conv=>whnf))
  refine A0 rfl ?_;refine dX (i:=i) (by omega) (by omega) ?_;(conv=>whnf)
  (repeat' ((first|(apply AX;omega)|fail)<;>conv=>whnf))
  refine B6 (λ j=>n-j) (λ(j:Nat)=>1<=j/\j<=n) (λ j=>[(18,.int .i64 j)]) (λ j=>[(10,10,.mx (R0.set i (some (3,((CO a i).take j).map eQ))))]) [] [] 1 (by first|exact (by (conv=>whnf);exact ⟨rfl,rfl,rfl⟩)|(rw[Bj];exact (by (conv=>whnf);exact ⟨rfl,rfl,rfl⟩))) (by omega) ?_;intro j ⟨r1,r2⟩ jh;have Cc:((CO a i).take j).length=j:=by rw[List.length_take];omega
  by_cases hj:j<n
  ·obtain ⟨r,x,e1,e2,e3,gm,Dp⟩:=hx i j hi hj
   have Dz:a[(j:Int).toNat]? = some r:=e1;have Az:r[(i:Int).toNat]? = some x:=e2;have Gf:=gS N.toa5 Dp hk;have hs:=tP e3;have Tk:((CO a i).take (j+1)).length=j+1:=by rw[List.length_take];omega
   generalize (CO a i).take j=W at *;(repeat' ((first|(apply AG<;>intro hc<;>try (exfalso;omega))|(apply A0;omega)|apply AE)<;>conv=>whnf))
   refine dS (by omega) (by omega) ?_;(conv=>whnf)
   (repeat' ((first|(refine BH (by assumption) ?_ rfl ?_;omega)|apply EL|refine AD (Gf) ?_)<;>conv=>whnf))
   refine cJ (by omega) (by omega) ?_;(conv=>whnf)
   refine E6 (enc:=eQ) x rfl (by rw[List.length_map]) rfl (by omega) (by omega) ?_;intro s' v;rw[<-hs,Tk];(conv=>whnf)
   (repeat' ((first|(apply A0;omega)|fail)<;>conv=>whnf))
   refine A0 ⟨rfl,by rw[List.length_map];omega⟩ ?_;refine dX (i:=i) (by omega) (by rw[List.length_set,List.length_set];omega) ?_;rw[show 0+((i:Int)).toNat=i by omega,List.set_set,List.set_set];(conv=>whnf)
   (repeat' ((first|(apply AX;omega)|fail)<;>conv=>whnf))
   exact BL [] (jh (j+1) (by omega) (by omega))
  have ej:j=n:=by omega
  clear jh;rw[ej,List.take_of_length_le (by omega),o9];(repeat' ((first|(apply AG<;>intro hc<;>try (exfalso;omega))|(apply AX;omega)|apply AE)<;>conv=>whnf))
  exact BL [] (ih (i+1) (by omega) (by omega))
 have ei:i=w:=by omega
 clear ih;rw[ei,kJ (by omega)];(repeat' ((first|(apply AG<;>intro hc<;>try (exfalso;omega))|apply AE)<;>conv=>whnf))
 refine UN (λ_=>rfl) rfl (by omega) ?_;(conv=>whnf)
 exact AY rfl (vH T)
theorem vR {k:Nat} {x:Rat} (h:Bt k x):Bt k ((x.den:Nat):Rat):=by
 refine ⟨?_,?_⟩
 ·rw[Rat.num_natCast,Int.natAbs_natCast];exact h.2
 ·rw[Rat.den_natCast];exact Nat.one_le_two_pow
theorem AjM (x:Rat):((x.den:Nat):Rat)≠0:=λ e=>by
 have:((x.den:Nat):Rat)=((0:Nat):Rat):=e
 have:=Rat.natCast_inj.1 this
 have:=x.den_pos
 omega
theorem Ya (N:cu L) {x:Rat} {k:Nat} (hx:Bt k x) (hk:k<2199023255552):Ev L 294 [.agg (eQ x)] (.agg (eQ ((x.den:Nat):Rat))):=by
 have hT:=gS N.toa5 hx hk;have z7:=EE ((x.den:Nat):Rat);have e:eQ ((x.den:Nat):Rat)=[.bool false,.sl false ((dg x.den).map AL),.sl false [[.int .u32 1]]]:=by
  rw[<-Rat.intCast_natCast,Ak7,Int.natAbs_natCast,show decide (((x.den:Nat):Int)<0)=false by simp]
 rw[e]at z7 ⊢;refine Ev.x N.ZC rfl rfl ?_;(repeat' ((first|refine H6 rfl ?_|apply AE|refine AD (hT) ?_)<;>conv=>whnf))
 exact AY rfl z7
theorem Al2 (N:cu L) (q q':Bool) (ls:List (List Rat)) (k:Nat) (hb:Ms k ls) (hl:ls.flatten.length<=64) (Am:ls.length<=1000) (hk:k<=1000000):Ev L 295 [.sl q (CZ q' ls)] (.agg (eQ (BF ls.flatten))):=by
 have hO:=HL N.toa5 1 (by omega);rw[show ((1:Int):Rat)=1 from rfl]at hO;have key : ∀ (i j:Nat) (r:List Rat) (x:Rat),ls[i]? = some r->r[j]? = some x -> ∃ S:Nat,BF ((ls.take i).flatten++r.take j)=(S:Rat)/\Bt (64*k) (S:Rat)/\BF ((ls.take i).flatten++r.take (j+1))=(S:Rat)*(((S:Rat)/((x.den:Nat):Rat)).den:Nat):=by
  intro i j r x hr hx;have iq:=(zS hx).1;have hlen:((ls.take i).flatten++r.take j).length<=64:=by
   have e:ls.flatten=(ls.take i).flatten++(r++(ls.drop (i+1)).flatten):=by
    have h1:=(zS hr);obtain ⟨h1,h2⟩:=h1;conv=>lhs;rw[<-List.take_append_drop i ls,List.flatten_append,List.drop_eq_getElem_cons h1,h2,List.flatten_cons]
   rw[e,List.length_append,List.length_append]at hl;rw[List.length_append,List.length_take];omega
  have Bi:Bs k ((ls.take i).flatten++r.take j):=λ y hy=>by
   rcases List.mem_append.1 hy with hy|hy
   ·obtain ⟨s,hs,hy⟩:=List.mem_flatten.1 hy
    exact hb s (List.mem_of_mem_take hs) y hy
   ·exact hb r (zM hr) y (List.mem_of_mem_take hy)
  obtain ⟨S,e,h1,h2,_⟩:=AfH Bi;refine ⟨S,e,⟨?_,?_⟩,?_⟩
  ·rw[Rat.num_natCast,Int.natAbs_natCast]
   exact Nat.le_trans h2 (Nat.pow_le_pow_right (by omega) (Nat.mul_le_mul_right k hlen))
  ·rw[Rat.den_natCast];exact Nat.one_le_two_pow
  ·rw[List.take_add_one,hx,Option.toList_some,<-List.append_assoc,sZ,e,SI,AjN]
 refine Ev.x N.ZA rfl rfl ?_;(repeat' ((first|apply AU|apply AE|refine AD (hO) ?_)<;>conv=>whnf))
 refine B6 (λ i=>ls.length-i) (λ(i:Nat)=>i<=ls.length) (λ i=>[(13,.int .i64 i)]) (λ i=>[(3,3,.bx (eQ (BF (ls.take i).flatten)))]) [] [] 0 (by rw[show BF (ls.take 0).flatten=1 from rfl];exact (by (conv=>whnf);exact ⟨rfl,rfl,rfl⟩)) (by omega) ?_;intro i p1 ih;by_cases hi:i<ls.length
 ·obtain ⟨r,hr⟩ : ∃ r,ls[i]? = some r:=⟨_,zE hi⟩
  have ov:ls[(i:Int).toNat]? = some r:=hr;have mo:=hb r (zM hr);have gm:r.length<=64:=by
   have e:ls.flatten=(ls.take i).flatten++(r++(ls.drop (i+1)).flatten):=by
    obtain ⟨h1,h2⟩:=zS hr;conv=>lhs;rw[<-List.take_append_drop i ls,List.flatten_append,List.drop_eq_getElem_cons h1,h2,List.flatten_cons]
   rw[e,List.length_append,List.length_append]at hl;omega
  have ik:(ls.take (i+1)).flatten=(ls.take i).flatten++r:=by
   rw[List.take_add_one,hr,List.flatten_append];simp
  (repeat' ((first|(apply AG<;>intro hc<;>try (exfalso;omega))|apply AU|(refine BH (by assumption) ?_ rfl ?_;omega)|apply AE)<;>conv=>whnf))
  refine B6 (λ j=>r.length-j) (λ(j:Nat)=>j<=r.length) (λ j=>[(19,.int .i64 j)]) (λ j=>[(3,3,.bx (eQ (BF ((ls.take i).flatten++r.take j))))]) [] [] 0 (by rw[List.take_zero,List.append_nil];exact (by (conv=>whnf);exact ⟨rfl,rfl,rfl⟩)) (by omega) ?_;intro j r1 jh;by_cases hj:j<r.length
  ·obtain ⟨x,hx⟩ : ∃ x,r[j]? = some x:=⟨_,zE hj⟩
   have nq:r[(j:Int).toNat]? = some x:=hx;obtain ⟨S,e,hS,e2⟩:=key i j r x hr hx;have Dp:=mo.at hx;have tu:=Ya N Dp (by omega);have hq:=hS.nr (vR Dp);have hDv:=mN N.toa5 hS (vR Dp) (by omega) (by omega) (AjM x);have tv:=Ya N hq (by omega);have hM:=FV N.toa5 hS (vR hq) (by omega) (by omega);rw[<-e2]at hM;rw[e];generalize (S:Rat)/((x.den:Nat):Rat)=y at *;generalize ((x.den:Nat):Rat)=d at *;generalize (S:Rat)=s at *;generalize ((y.den:Nat):Rat)=d2 at *;(repeat' ((first|(apply AG<;>intro hc<;>try (exfalso;omega))|(apply AX;omega)|(refine BH (by assumption) ?_ rfl ?_;omega)|apply AE|refine AD (tu) ?_|refine AD (hDv) ?_|refine AD (tv) ?_|refine AD (hM) ?_)<;>conv=>whnf))
   exact BL [] (jh (j+1) (by omega) (by omega))
  obtain rfl:j=r.length:=by omega
  clear jh;rw[List.take_of_length_le (Nat.le_refl _),<-ik];(repeat' ((first|(apply AG<;>intro hc<;>try (exfalso;omega))|(apply AX;omega)|apply AE)<;>conv=>whnf))
  exact BL [] (ih (i+1) (by omega) (by omega))
 obtain rfl:i=ls.length:=by omega
 clear ih;rw[List.take_of_length_le (Nat.le_refl _)];(repeat' ((first|(apply AG<;>intro hc<;>try (exfalso;omega))|apply AE)<;>conv=>whnf))
 exact AY rfl (EE _)
theorem Amf (N:cu L) (q:Bool) (v:List Rat) (c:Rat) (k l:Nat) (hv:Bs k v) (hc:Bt l c) (hk:k<1099511627776) (hl:l<1099511627776) (hn:v.length<=1000000):Ev L 296 [.sl q (v.map eQ),.agg (eQ c)] (.sl false ((v.map (· * c)).map eQ)):=by
 refine Ev.x N.ZG rfl rfl ?_;(repeat' ((first|apply AU|apply AE)<;>conv=>whnf))
 refine EK (enc:=eO) none v.length rfl rfl (by omega) ?_;(conv=>whnf)
 (repeat' (apply AU<;>conv=>whnf))
 refine B6 (λ i=>v.length-i) (λ(i:Nat)=>i<=v.length) (λ i=>[(12,.int .i64 i)]) (λ i=>[(9,9,.rw 3 ((DH ((v.map (· * c)).take i) v.length).map eO))]) [] [] 0 (by first|exact (by (conv=>whnf);exact ⟨rfl,rfl,rfl⟩)|(rw[List.take_zero,<-OQ];exact (by (conv=>whnf);exact ⟨rfl,rfl,rfl⟩))) (by omega) ?_;intro i p1 ih;have fm:((v.map (· * c)).take i).length=i:=by rw[List.length_take,List.length_map];omega
 have Db:=J3 (l:=(v.map (· * c)).take i) (m:=v.length) (by omega);by_cases hi:i<v.length
 ·obtain ⟨x,hx⟩ : ∃ x,v[i]? = some x:=⟨_,zE hi⟩
  have nq:v[(i:Int).toNat]? = some x:=hx;have hy:(v.map (· * c))[i]? = some (x*c):=by rw[List.getElem?_map,hx];rfl
  have hs:=OR (l:=(v.map (· * c)).take i) (m:=v.length) (x:=x*c) (by omega);rw[fm,<-aZ hy]at hs;have hM:=FV N.toa5 (hv.at hx) hc (by omega) (by omega);generalize DH ((v.map (· * c)).take i) v.length=F0 at *;generalize x*c=y at *;(repeat' ((first|(apply AG<;>intro hc<;>try (exfalso;omega))|(apply A0;omega)|(refine BH (by assumption) ?_ rfl ?_;omega)|apply AE|refine AD (hM) ?_)<;>conv=>whnf))
  refine FP (enc:=eO) (some y) rfl (λ e=>by cases e<;>rfl) (by omega) ?_;(conv=>whnf)
  rw[hs];(repeat' ((first|(apply AX;omega)|fail)<;>conv=>whnf))
  exact BL [] (ih (i+1) (by omega) (by omega))
 obtain rfl:i=v.length:=by omega
 clear ih;have lf:(v.map (· * c)).length=v.length:=List.length_map _;rw[List.take_of_length_le (by omega),OO lf];(repeat' ((first|(apply AG<;>intro hc<;>try (exfalso;omega))|(refine DR (λ_=>rfl) rfl ?_ ?_;(first|rfl|simp))|apply AE)<;>conv=>whnf))
 exact AY rfl (by simp only[A6,true_and];exact OK _)
abbrev wK (q:Bool) (x:Rat):List AV:=rQ q q (decide (x.num<0)) (dg x.num.natAbs) (dg x.den)
theorem AmA (N:a5 L) (q:Bool) {x:Rat} {k:Nat} (hx:Bt k x) (hk:k<2199023255552):Ev L 97 [.agg (wK q x)] (.int .i64 (dp x.num)):=by
 have hs:=hx.sm hk;have:=Adf N (decide (x.num<0)) q q (dg x.num.natAbs) (dg x.den) (hs.1.le (by omega)) (hs.2.le (by omega))
 rwa [FF]at this
theorem AlT (N:a5 L) (q:Bool) {x y:Rat} {k l:Nat} (hx:Bt k x) (hy:Bt l y) (hk:k<2199023255552) (hl:l<2199023255552):Ev L 99 [.agg (eQ x),.agg (wK q y)] (.agg (eQ (x*y))):=by
 have h1:=hx.sm hk;have h2:=hy.sm hl;have:=xF N 68719476736 (by omega) (decide (x.num<0)) (decide (y.num<0)) false false q q (dg x.num.natAbs) (dg x.den) (dg y.num.natAbs) (dg y.den) h1.1 h1.2 h2.1 h2.2
 rwa [FF,FF]at this
theorem Amb (N:cu L) (q1 q2 qb:Bool) (a b:List Rat) (k l:Nat) (hl:a.length=b.length) (ha:Bs k a) (hb:Bs l b) (hn:a.length<=64) (hk:k<=1000000000) (re:l<=1000000000):Ev L 297 [.sl q1 (a.map eQ),.sl q2 (b.map (wK qb))] (.agg (eQ (AZ a b))):=by
 have hO:=HL N.toa5 0 (by omega);rw[show ((0:Int):Rat)=0 from rfl]at hO;refine Ev.x N.ZD rfl rfl ?_;(repeat' ((first|apply AU|apply AE|refine AD (hO) ?_)<;>conv=>whnf))
 refine B6 (λ i=>a.length-i) (λ(i:Nat)=>i<=a.length) (λ i=>[(10,.int .i64 i)]) (λ i=>[(5,5,.bx (eQ (AZ (a.take i) (b.take i))))]) [] [] 0 (by rw[show AZ (a.take 0) (b.take 0)=0 from rfl];exact (by (conv=>whnf);exact ⟨rfl,rfl,rfl⟩)) (by omega) ?_;intro i p1 ih;by_cases hi:i<a.length
 ·obtain ⟨x,hx⟩ : ∃ x,a[i]? = some x:=⟨_,zE hi⟩
  obtain ⟨y,hy⟩ : ∃ y,b[i]? = some y:=⟨_,zE (by omega)⟩;have nq:a[(i:Int).toNat]? = some x:=hx;have Dq:b[(i:Int).toNat]? = some y:=hy;have Kz:=mQ N.toa5 (ha.at hx) (by omega);have wo:=AmA N.toa5 qb (hb.at hy) (by omega);have hM:=AlT N.toa5 qb (ha.at hx) (hb.at hy) (by omega) (by omega);have hd:Bt (64*(k+l+1)) (AZ (a.take i) (b.take i)):=by
   refine ((ha.take i).dot (hb.take i)).le (Nat.mul_le_mul_right _ ?_);rw[List.length_take];omega
  have hA:=cW N.toa5 hd ((ha.at hx).mul (hb.at hy)) (by omega) (by omega);rw[<-qU hx hy]at hA;have hz:x=0\/y=0->AZ (a.take i) (b.take i)=AZ (a.take (i+1)) (b.take (i+1)):=λ h=>by
   rw[qU hx hy];rcases h with h|h<;>rw[h]<;>grind
  by_cases h1:x=0
  ·have s1:dp x.num=0:=fK.2 h1
   rw[s1]at Kz;rw[hz (Or.inl h1)];clear hA hz hd;(repeat' ((first|(apply AG<;>intro hc<;>try (exfalso;omega))|(apply AX;omega)|(refine BH (by assumption) ?_ rfl ?_;omega)|apply AE|refine AD (Kz) ?_)<;>conv=>whnf))
   exact BL [] (ih (i+1) (by omega) (by omega))
  ·have s1:dp x.num≠0:=λ h=>h1 (fK.1 h)
   generalize dp x.num=g1 at *;by_cases h2:y=0
   ·have s2:dp y.num=0:=fK.2 h2
    rw[s2]at wo;rw[hz (Or.inr h2)];clear hA hz hd;(repeat' ((first|(apply AG<;>intro hc<;>try (exfalso;omega))|(apply AX;omega)|(refine BH (by assumption) ?_ rfl ?_;omega)|apply AE|refine AD (Kz) ?_|refine AD (wo) ?_)<;>conv=>whnf))
    exact BL [] (ih (i+1) (by omega) (by omega))
   ·have s2:dp y.num≠0:=λ h=>h2 (fK.1 h)
    generalize dp y.num=g2 at *;clear hz hd;generalize AZ (a.take i) (b.take i)=w at *;generalize x*y=p at *;(repeat' ((first|(apply AG<;>intro hc<;>try (exfalso;omega))|(apply AX;omega)|(refine BH (by assumption) ?_ rfl ?_;omega)|apply AE|refine AD (Kz) ?_|refine AD (wo) ?_|refine AD (hM) ?_|refine AD (hA) ?_)<;>conv=>whnf))
    exact BL [] (ih (i+1) (by omega) (by omega))
 obtain rfl:i=a.length:=by omega
 clear ih;rw[mJ rfl];(repeat' ((first|(apply AG<;>intro hc<;>try (exfalso;omega))|apply AE)<;>conv=>whnf))
 exact AY rfl (EE _)
theorem Ama (N:cu L) (q1 q2:Bool) (a b:List Rat) (k l:Nat) (hl:a.length=b.length) (ha:Bs k a) (hb:Bs l b) (hn:a.length<=64) (hk:k<=1000000000) (re:l<=1000000000):Ev L 297 [.sl q1 (a.map eQ),.sl q2 (b.map eQ)] (.agg (eQ (AZ a b))):=Amb N q1 q2 false a b k l hl ha hb hn hk re
end Go.e9

namespace Go.e9
open F
attribute [local irreducible] AA AF AM AC CK AR AW BD A7 BW AQ BT CD DB BP A4 BO CE AB A8 AJ pw B4 BK CF CI CN CX CJ BS CM
variable {L:Lib} (n:Nt)
set_option maxHeartbeats 1000000
end Go.e9

namespace Go.e9
open F
attribute [local irreducible] AA AF AM AC CK AR AW BD A7 BW AQ BT CD DB BP A4 BO CE AB A8 AJ pw B4 BK CF CI CN CX CJ BS CM
variable {L:Lib}
set_option maxHeartbeats 4000000
end Go.e9

namespace Go.e9
open F
attribute [local irreducible] AA AF AM AC CK AR AW BD A7 BW AQ BT CD DB BP A4 BO CE AB A8 AJ pw B4 BK CF CI CN CX CJ BS CM
variable {L:Lib}
variable (b a:List Int) (d c:Wd)
variable {b a d c}
set_option maxHeartbeats 4000000
end Go.e9

namespace Go.e9
open F
attribute [local irreducible] AA AF AM AC CK AR AW BD A7 BW AQ BT CD DB BP A4 BO CE AB A8 AJ pw B4 BK CF CI CN CX CJ BS CM
variable {L:Lib}
set_option maxHeartbeats 8000000
end Go.e9

namespace Go.e9
open F
attribute [local irreducible] AA AF AM AC CK AR AW BD A7 BW AQ BT CD DB BP A4 BO CE AB A8 AJ pw B4 BK CF CI CN CX CJ BS CM
attribute [local irreducible] XG
variable {L:Lib}
set_option maxHeartbeats 8000000
end Go.e9

namespace Go.e9
open F
attribute [local irreducible] AA AF AM AC CK AR AW BD A7 BW AQ BT CD DB BP A4 BO CE AB A8 AJ pw B4 BK CF CI CN CX CJ BS CM
variable {L:Lib}
set_option maxHeartbeats 16000000
set_option maxRecDepth 8000
theorem ApW {l:List Rat} {i:Nat} {x:Rat} (h:l[i]? = some x):C5 (l.take (i+1))=C5 (l.take i)+H7 x:=by rw[aZ h,AfN]
theorem Amg (N:cu L) (q:Bool) (v:List Rat) (k:Nat) (hv:Bs k v) (hn:v.length<=1000) (hk:k<=1000000000):Ev L 300 [.sl q (v.map eQ)] (.agg (eQ (C5 v))):=by
 have hO:=HL N.toa5 0 (by omega);rw[show ((0:Int):Rat)=0 from rfl]at hO;refine Ev.x N.ZH rfl rfl ?_;(repeat' ((first|apply AU|apply AE|refine AD (hO) ?_)<;>conv=>whnf))
 refine B6 (λ i=>v.length-i) (λ(i:Nat)=>i<=v.length) (λ i=>[(9,.int .i64 i)]) (λ i=>[(3,3,.bx (eQ (C5 (v.take i))))]) [] [] 0 (by rw[show C5 (v.take 0)=0 from rfl];exact (by (conv=>whnf);exact ⟨rfl,rfl,rfl⟩)) (by omega) ?_;intro i p1 ih;by_cases hi:i<v.length
 ·obtain ⟨x,hx⟩ : ∃ x,v[i]? = some x:=⟨_,zE hi⟩
  have nq:v[(i:Int).toNat]? = some x:=hx;have hA:=All N.toga (hv.at hx) (by omega);have hz:Bt (1000*(k+1)) (C5 (v.take i)):=(Ot (hv.take i)).le (Nat.mul_le_mul_right _ (by rw[List.length_take];omega));have hP:=cW N.toa5 hz (Aiw (hv.at hx)) (by omega) (by omega);rw[<-ApW hx]at hP;generalize C5 (v.take i)=w at *;generalize H7 x=y at *;(repeat' ((first|(apply AG<;>intro hc<;>try (exfalso;omega))|(apply AX;omega)|(refine BH (by assumption) ?_ rfl ?_;omega)|apply AE|refine AD (hA) ?_|refine AD (hP) ?_)<;>conv=>whnf))
  exact BL [] (ih (i+1) (by omega) (by omega))
 obtain rfl:i=v.length:=by omega
 clear ih;rw[List.take_of_length_le (Nat.le_refl _)];(repeat' ((first|(apply AG<;>intro hc<;>try (exfalso;omega))|apply AE)<;>conv=>whnf))
 exact AY rfl (EE _)
theorem ApP {x y:Rat}:0<dp (x-y).num↔y<x:=by
 have h:=Ol (x-y).num;have e1:(x-y).num<0↔x<y:=by rw[zO];constructor<;>intro h<;>grind
 have e2:(x-y).num=0↔x=y:=by rw[Rat.num_eq_zero];constructor<;>intro h<;>grind
 rcases h with ⟨h1,h2⟩|⟨h1,h2⟩|⟨h1,h2⟩
 ·have:=e1.1 h2
  rw[h1];constructor
  ·intro h;omega
  ·intro h;grind
 ·have:=e2.1 h2
  rw[h1];constructor
  ·intro h;omega
  ·intro h;grind
 ·have h3 : ¬ x<y:=λ h=>by have:=e1.2 h;omega
  have h4 : ¬ x=y:=λ h=>by have:=e2.2 h;omega
  rw[h1];constructor
  ·intro _;grind
  ·intro _;omega
theorem Al3 (N:cu L) (q q':Bool) (a:List (List Rat)) (D:Rat) (n k l:Nat) (hs:Sq n a) (ha:Ms k a) (hD:Bt l D) (hn:n<=16) (hk:k<=1000000000) (hl:l<=1000000000):Ev L 302 [.sl q (CZ q' a),.agg (eQ D)] (.bool (decide (∀ r∈a,C5 r+C5 r<=D))):=by
 have dh:=hs.l;refine Ev.x N.ZB rfl rfl ?_;(repeat' ((first|apply AU|apply AE)<;>conv=>whnf))
 refine B6 (λ i=>n-i) (λ(i:Nat)=>i<=n /\ ∀ r∈a.take i,C5 r+C5 r<=D) (λ i=>[(10,.int .i64 i)]) (λ_=>[]) [] [] 0 (by (conv=>whnf);exact ⟨rfl,rfl,rfl⟩) ⟨by omega,λ r hr=>by cases hr⟩ ?_;intro i ⟨p1,p2⟩ ih;by_cases hi:i<n
 ·obtain ⟨r,hr⟩ : ∃ r,a[i]? = some r:=⟨_,zE (by omega)⟩
  have ov:a[(i:Int).toNat]? = some r:=hr;have gm:=hs.at hr;have hT:=λ q=>Amg N q r k (ha.at hr) (by omega) hk
  have hz:Bt (16*(k+1)) (C5 r):=(Ot (ha.at hr)).le (Nat.mul_le_mul_right _ (by omega));have hP:=cW N.toa5 hz hz (by omega) (by omega);have hC:=Yy N.toal (hz.add hz) hD (by omega) (by omega);have hg:=ApP (x:=C5 r+C5 r) (y:=D);by_cases h:D<C5 r+C5 r
  ·have Dd : ¬ ∀ r∈a,C5 r+C5 r<=D:=λ e=>by
    have:=e r (zM hr)
    grind
   have:=hg.2 h
   rw[decide_eq_false Dd];clear Dd p2 ih hz h hg;generalize dp (C5 r+C5 r-D).num=g at *;generalize C5 r+C5 r=w at *;generalize C5 r=z at *;(repeat' ((first|(apply AG<;>intro hc<;>try (exfalso;omega))|(refine BH (by assumption) ?_ rfl ?_;omega)|apply AE|refine AD (hT _) ?_|refine AD (hP) ?_|refine AD (hC) ?_)<;>conv=>whnf))
   exact JR rfl
  ·have Ue : ∀ r∈a.take (i+1),C5 r+C5 r<=D:=λ s hs=>by
    rw[aZ hr]at hs;rcases List.mem_append.1 hs with hs|hs
    ·exact p2 s hs
    ·obtain rfl:=List.mem_singleton.1 hs
     grind
   have : ¬ 0<dp (C5 r+C5 r-D).num:=λ e=>h (hg.1 e)
   clear p2 hz h hg;generalize dp (C5 r+C5 r-D).num=g at *;generalize C5 r+C5 r=w at *;generalize C5 r=z at *;(repeat' ((first|(apply AG<;>intro hc<;>try (exfalso;omega))|(apply AX;omega)|(refine BH (by assumption) ?_ rfl ?_;omega)|apply AE|refine AD (hT _) ?_|refine AD (hP) ?_|refine AD (hC) ?_)<;>conv=>whnf))
   exact BL [] (ih (i+1) (by omega) ⟨by omega,Ue⟩)
 obtain rfl:i=n:=by omega
 clear ih;rw[List.take_of_length_le (by omega)]at p2;rw[decide_eq_true p2];(repeat' ((first|(apply AG<;>intro hc<;>try (exfalso;omega))|apply AE)<;>conv=>whnf))
 exact JR rfl
theorem AeA {α:Type} {a b:List α} {j:Nat} {y:α} (hl:a.length=b.length) (hy:a[j]? = some y):(a.take j++b.drop j).set j y=a.take (j+1)++b.drop (j+1):=by
 have h:=(zS hy).1;rw[List.set_append_right _ _ (by rw[List.length_take];omega),List.length_take,Nat.min_eq_left (by omega),Nat.sub_self,List.drop_eq_getElem_cons (by omega),List.set_cons_zero,List.take_add_one,hy,Option.toList_some,List.append_assoc];rfl
def IG (Q:List (List Rat)) (n j:Nat):List (Option (Nat × List (List AV))):=Q.map λ r=>some (3,(DH (r.take j) n).map eO)
def UP (Q:List (List Rat)) (n j m:Nat):List (Option (Nat × List (List AV))):=(IG Q n (j+1)).take m++(IG Q n j).drop m
theorem cS (Q:List (List Rat)) (n j:Nat):(IG Q n j).length=Q.length:=by simp [IG]
theorem Ajj (Q:List (List Rat)) (n j:Nat):UP Q n j 0=IG Q n j:=by simp [UP]
theorem Ajg (Q:List (List Rat)) (n j:Nat):UP Q n j Q.length=IG Q n (j+1):=by
 rw[UP,List.take_of_length_le (by rw[cS];exact Nat.le_refl _),List.drop_of_length_le (by rw[cS];exact Nat.le_refl _),List.append_nil]
theorem Ajh {Q:List (List Rat)} {n j m:Nat} (h:m<=Q.length):(UP Q n j m).length=Q.length:=by
 rw[UP,List.length_append,List.length_take,List.length_drop,cS,cS];omega
theorem Ajf {Q:List (List Rat)} {n j m:Nat} {r:List Rat} (hr:Q[m]? = some r):(UP Q n j m)[m]? = some (some (3,(DH (r.take j) n).map eO)):=by
 have h:=(zS hr).1;rw[UP,List.getElem?_append_right (by rw[List.length_take,cS];omega),List.length_take,cS,Nat.min_eq_left (by omega),Nat.sub_self,List.getElem?_drop,Nat.add_zero,IG,List.getElem?_map,hr];rfl
theorem Aji {Q:List (List Rat)} {n j m:Nat} {r:List Rat} (hr:Q[m]? = some r):(UP Q n j m).set m (some (3,(DH (r.take (j+1)) n).map eO))=UP Q n j (m+1):=by
 have h:=(zS hr).1;exact AeA (by rw[cS,cS]) (by rw[IG,List.getElem?_map,hr];rfl)
theorem Ahm {R:List (Option (Nat × List (List AV)))} {i z:Nat} {es:List (List AV)} {K:Nat->List (List AV)->Prop} (h:R[i]? = some (some (z,es))) (hk:K z es):BK R i K:=by
 unfold BK;exact ⟨z,es,h,hk⟩
theorem Ajk {Q:List (List Rat)} {n:Nat} (h : ∀ r∈Q,r.length=n):IG Q n n=B7 3 eQ Q:=by
 refine List.map_congr_left λ r hr => ?_
 have:=h r hr
 rw[List.take_of_length_le (by omega),OO this]
theorem Amd (N:cu L) (q q':Bool) (a:List (List Rat)) (n k:Nat) (hs:Sq n a) (ha:Ms k a) (hn:n<=4) (hk:k<=1000000000):Ev L 299 [.sl q (CZ q' a)] (.sl false (eM (C1 a a n))):=by
 have dh:=hs.l;have hQs:Sq n (C1 a a n):=Sq.mul hs.l a;have hQa : ∀ (i:Nat) (r:List Rat),a[i]? = some r->(C1 a a n)[i]? = some (EU r a n):=λ i r hr=>by rw[C1,List.getElem?_map,hr];rfl
 have Pz : ∀ (j:Nat) (r:List Rat),j<n->(EU r a n)[j]? = some (AZ r (CO a j)):=λ j r hj=>by rw[EU,List.getElem?_map,List.getElem?_range hj];rfl
 have Py:=hQs.l;have hQr:=hQs.r;generalize C1 a a n=Q at *;refine Ev.x N.ZE rfl rfl ?_;(repeat' ((first|apply AU|apply AE)<;>conv=>whnf))
 unfold CN;refine ⟨⟨by omega,by omega,by simp only[DX];omega,by omega⟩,?_⟩;rw[Int.toNat_natCast,dh];(conv=>whnf)
 skip
 have ns:=cS Q n 0;have Kq : ∀ i,i<n->(IG Q n 0)[i]? = some (some (3,(List.replicate n (none:Option Rat)).map eO)):=λ i hi=>by
  rw[IG,List.getElem?_map,zE (by omega),Option.map_some,List.take_zero,OQ]
 refine B6 (λ i=>n-i) (λ(i:Nat)=>i<=n) (λ i=>[(15,.int .i64 i)]) (λ i=>[(13,13,.mx (fz none ((IG Q n 0).take i) n))]) [] [] 0 (by first|exact (by (conv=>whnf);exact ⟨rfl,rfl,rfl⟩)|(rw[List.take_zero,show fz (none:Option (Nat × List (List AV))) [] n=List.replicate n none by simp [fz]];exact (by (conv=>whnf);exact ⟨rfl,rfl,rfl⟩))) (by omega) ?_;intro i p1 ih;have fm:((IG Q n 0).take i).length=i:=by rw[List.length_take];omega
 have ik:=gW (z:=(none:Option (Nat × List (List AV)))) (l:=(IG Q n 0).take i) (m:=n) (by omega);by_cases hi:i<n
 ·have il:=gX (z:=(none:Option (Nat × List (List AV)))) (x:=some (3,(List.replicate n (none:Option Rat)).map eO)) (l:=(IG Q n 0).take i) (m:=n) (by omega)
  rw[fm,<-aZ (Kq i hi)]at il;generalize fz (none:Option (Nat × List (List AV))) ((IG Q n 0).take i) n=J at *;(repeat' ((first|(apply AG<;>intro hc<;>try (exfalso;omega))|apply AE)<;>conv=>whnf))
  refine EK (enc:=eO) none n rfl rfl (by omega) ?_;(conv=>whnf)
  (repeat' ((first|(apply A0;omega)|fail)<;>conv=>whnf))
  unfold AM CF;refine ⟨by simp,by omega,?_⟩;(conv=>whnf)
  rw[show 0+((i:Int)).toNat=i by omega,il];(repeat' ((first|(apply AX;omega)|fail)<;>conv=>whnf))
  exact BL [] (ih (i+1) (by omega) (by omega))
 have ei:i=n:=by omega
 clear ih ik;rw[ei,List.take_of_length_le (by omega),gV (by omega)];(repeat' ((first|(apply AG<;>intro hc<;>try (exfalso;omega))|apply AE)<;>conv=>whnf))
 refine EK (enc:=eO) none n rfl rfl (by omega) ?_;(conv=>whnf)
 skip
 refine G8 (λ j _=>n-j) (λ(j:Nat) (C:List (Option Rat))=>j<=n/\C.length=n) (λ j _=>[(27,.int .i64 j)]) (λ j C=>[(25,25,.rw 3 (C.map eO)),(13,13,.mx (IG Q n j))]) [] [] 0 (List.replicate n none) (by (conv=>whnf);exact ⟨rfl,rfl,rfl⟩) ⟨by omega,by simp⟩ ?_;intro j C ⟨r1,r2⟩ jh;by_cases hj:j<n
 ·have z7:(CO a j).length=n:=by rw[qH];exact dh
  have AFl:((CO a j).map some).length=n:=by rw[List.length_map];exact z7
  (repeat' ((first|(apply AG<;>intro hc<;>try (exfalso;omega))|apply AE)<;>conv=>whnf))
  refine B6 (λ i=>n-i) (λ(i:Nat)=>i<=n) (λ i=>[(31,.int .i64 i)]) (λ i=>[(25,25,.rw 3 ((((CO a j).map some).take i++C.drop i).map eO))]) [] [] 0 (by rw[List.take_zero,List.drop_zero,List.nil_append];exact (by (conv=>whnf);exact ⟨rfl,rfl,rfl⟩)) (by omega) ?_;intro i2 s1 kh;have lf:(((CO a j).map some).take i2++C.drop i2).length=n:=by rw[List.length_append,List.length_take,List.length_drop];omega
  by_cases xx:i2<n
  ·obtain ⟨r,hr⟩ : ∃ r,a[i2]? = some r:=⟨_,zE (by omega)⟩
   have gm:=hs.at hr;obtain ⟨x,hx⟩ : ∃ x,r[j]? = some x:=⟨_,zE (by omega)⟩;have ov:a[(i2:Int).toNat]? = some r:=hr;have nq:r[(j:Int).toNat]? = some x:=hx;have hcx:((CO a j).map some)[i2]? = some (some x):=by
    rw[List.getElem?_map,CO,List.getElem?_map,hr];simp only[Option.map_some,List.getD_eq_getElem?_getD,hx,Option.getD_some]
   have o9:=AeA (a:=(CO a j).map some) (b:=C) (by omega) hcx;generalize ((CO a j).map some).take i2++C.drop i2=W at *;(repeat' ((first|(apply AG<;>intro hc<;>try (exfalso;omega))|(apply A0;omega)|(refine BH (by assumption) ?_ rfl ?_;omega)|apply AE)<;>conv=>whnf))
   refine FP (enc:=eO) (some x) rfl (λ e=>by cases e<;>rfl) (by omega) ?_;(conv=>whnf)
   rw[o9];(repeat' ((first|(apply AX;omega)|fail)<;>conv=>whnf))
   exact BL [] (kh (i2+1) (by omega) (by omega))
  obtain rfl:i2=n:=by omega
  clear kh lf;rw[List.take_of_length_le (by omega),List.drop_of_length_le (by omega),List.append_nil,show ((CO a j).map some).map eO=(CO a j).map eQ by rw[List.map_map];rfl];(repeat' ((first|(apply AG<;>intro hc<;>try (exfalso;omega))|apply AE)<;>conv=>whnf))
  refine B6 (λ i=>i2-i) (λ(i:Nat)=>i<=i2) (λ i=>[(46,.int .i64 i)]) (λ i=>[(13,13,.mx (UP Q i2 j i))]) [] [] 0 (by rw[Ajj];exact (by (conv=>whnf);exact ⟨rfl,rfl,rfl⟩)) (by omega) ?_;intro i3 s2 lh;have lf:=Ajh (Q:=Q) (n:=i2) (j:=j) (m:=i3) (by omega);by_cases Bo:i3<i2
  ·obtain ⟨r,hr⟩ : ∃ r,a[i3]? = some r:=⟨_,zE (by omega)⟩
   have gm:=hs.at hr;have ov:a[(i3:Int).toNat]? = some r:=hr;have hq:=hQa i3 r hr;have ji:=Ajf (n:=i2) (j:=j) hq;have ue:=Aji (n:=i2) (j:=j) hq;have hxx:=Pz j r hj;have Jo:(EU r a i2).length=i2:=hQr _ (zM hq);have Tl:((EU r a i2).take j).length=j:=by rw[List.length_take];omega
   have il:=OR (l:=(EU r a i2).take j) (m:=i2) (x:=AZ r (CO a j)) (by omega);rw[Tl,<-aZ hxx]at il;have ik:=J3 (l:=(EU r a i2).take j) (m:=i2) (by omega);rw[<-il]at ue;have hD:=λ q q'=>Ama N q q' r (CO a j) k k (by omega) (ha.at hr) (Ms.Ph ha j) (by omega) hk hk
   clear hq hxx il Tl Jo;generalize DH ((EU r a i2).take j) i2=W at *;generalize AZ r (CO a j)=y at *;generalize UP Q i2 j i3=R0 at *;(repeat' ((first|(apply AG<;>intro hc<;>try (exfalso;omega))|(apply A0;omega)|apply AE)<;>conv=>whnf))
   refine Ahn (r:=some (3,W.map eO)) (by rw[Nat.zero_add,Int.toNat_natCast];exact ji) ?_;(conv=>whnf)
   (repeat' ((first|(refine BH (by assumption) ?_ rfl ?_;omega)|fail)<;>conv=>whnf))
   refine DR (enc:=eQ) (λ_=>rfl) rfl z7.symm ?_;(conv=>whnf)
   (repeat' (refine AD (hD _ _) ?_<;>conv=>whnf))
   refine A0 (by rw[List.length_map];omega) ?_;(conv=>whnf)
   skip
   refine Ahm (z:=3) (es:=W.map eO) (by rw[Nat.zero_add,Int.toNat_natCast];exact ji) ?_;(conv=>whnf)
   refine FP (enc:=eO) (some y) rfl (λ e=>by cases e<;>rfl) (by omega) ?_;(conv=>whnf)
   unfold CI;refine ⟨by rw[List.length_map,List.length_map,List.length_set],?_⟩;rw[show 0+((i3:Int)).toNat=i3 by omega,ue];(conv=>whnf)
   (repeat' ((first|(apply AX;omega)|fail)<;>conv=>whnf))
   exact BL [] (lh (i3+1) (by omega) (by omega))
  obtain rfl:i3=i2:=by omega
  clear lh lf;have Cx:=Ajg Q i3 j;rw[Py]at Cx;rw[Cx];(repeat' ((first|(apply AG<;>intro hc<;>try (exfalso;omega))|(apply AX;omega)|apply AE)<;>conv=>whnf))
  rw[show (CO a j).map eQ=((CO a j).map some).map eO by rw[List.map_map];rfl];exact BL [] (jh (j+1) ((CO a j).map some) (by omega) ⟨by omega,by rw[List.length_map];exact z7⟩)
 have ej:j=n:=by omega
 clear jh;rw[ej,Ajk hQr];(repeat' ((first|(apply AG<;>intro hc<;>try (exfalso;omega))|apply AE)<;>conv=>whnf))
 refine UN (λ_=>rfl) rfl (by omega) ?_;(conv=>whnf)
 exact AY rfl (vH Q)
abbrev eF (q:Bool) (R:List (List Rat)) (D:Rat) (p:Int) (T:Rat):List AV:=[.sl false (CZ q R)]++eQ D++[.int .i64 p]++eQ T
theorem vE (R:List (List Rat)) (D:Rat) (p:Int) (T:Rat) (e:Int):A6 (.m9 [.agg (eF false R D p T),.int .i64 e]):=by
 have h1:=vF R;have h2:=EE D;have h3:=EE T;simp only[A6,CW,true_and,and_true,eF,List.cons_append,List.nil_append]at h1 h2 h3 ⊢;exact ⟨h1,h2.1,h2.2,h3.1,h3.2⟩
theorem Afb {i:Nat} (h:i<=6):2^i<=64/\(2^i=64->i=6)/\1<=2^i:=by
 obtain rfl|rfl|rfl|rfl|rfl|rfl|rfl:i=0\/i=1\/i=2\/i=3\/i=4\/i=5\/i=6:=by omega
 all_goals decide
theorem Afd {D:Rat} {d:Nat} (h:Bt d D) : ∀ j:Nat,Bt (j*d) (D^j)
 | 0=>by rw[Rat.pow_zero];exact Bt.one _
 | j+1=>by
  rw[Rat.pow_succ];exact ((Afd h j).mul h).le (by rw[Nat.succ_mul];omega)
theorem AoJ {S M:Nat} (h:S<=2^M):Bt M (S:Rat):=by
 refine ⟨?_,?_⟩
 ·rw[Rat.num_natCast,Int.natAbs_natCast];exact h
 ·rw[Rat.den_natCast];exact Nat.one_le_two_pow
theorem AoK {S:Nat} (h:0<S):(0:Rat)<(S:Rat):=by
 have:=Rat.natCast_lt_natCast.2 h
 exact this
theorem Ame (N:cu L) (q q':Bool) (a:List (List Rat)) (n k:Nat) (hs:Sq n a) (ha:Ms k a) (hn:n<=4) (hk:k<=100000) :
  ∃ v,Ev L 303 [.sl q (CZ q' a)] v/\((∃ i,i<=6/\lI n a i/\v = .m9 [.agg (eF false (CU (BF a.flatten) a) (BF a.flatten) ((2^i:Nat):Int) (BF a.flatten^(2^i+2^i-1))),.int .i64 0]) \/
   ((∀ j,j<=6->GI (DN n a j)=false)/\v = .m9 [.agg [.sl false [],.bool false,.sl false [],.sl false [],.int .i64 0,.bool false,.sl false [],.sl false []],.int .i64 14])):=by
 have dh:=hs.l;have hnn:n*n<=4*4:=Nat.mul_le_mul hn hn;have hnk:n*n*k<=16*k:=Nat.mul_le_mul_right k hnn;have ik:a.flatten.length<=64:=by
  have : ∀ (a:List (List Rat)),(∀ r∈a,r.length=n)->a.flatten.length=a.length*n:=by
   intro a;induction a with
   | nil=>intro _;simp
   | cons r a ih =>
    intro h;rw[List.flatten_cons,List.length_append,ih λ x hx=>h x (List.mem_cons_of_mem _ hx),h r List.mem_cons_self,List.length_cons,Nat.succ_mul,Nat.add_comm]
  rw[this a hs.r,dh];omega
 have Bc:=Al2 N q q' a k ha ik (by omega) (by omega);have hO:=HL N.toa5 1 (by omega);rw[show ((1:Int):Rat)=1 from rfl]at hO;obtain ⟨D0,eD,d1,d2,d3⟩:=ApY hs ha;have Pn:Bt (16*k) (D0:Rat):=AoJ (Nat.le_trans d2 (Nat.pow_le_pow_right (by omega) hnk));have hDp:(0:Rat)<(D0:Rat):=AoK d1;have hDN:=wC (Nat.le_trans d2 (Nat.pow_le_pow_right (by omega) hnk));have hRW:=Mw hs hn d3;rw[eD]at Bc ⊢;generalize (D0:Rat)=D at *;clear eD d1 d2 d3;have Eg:(CU D a).length=n:=by rw[Ov];exact dh
 have Qj : ∀ (i:Nat) (r:List Rat),a[i]? = some r->(CU D a)[i]? = some (r.map (· * D)):=λ i r hr=>ApX hr
 have vt : ∀ i,Sq n (CU (EB D i) (DN n a i)):=λ i=>AfO _ (Mv hs i)
 have yc : ∀ i,i<=6->Ms 300000000 (CU (EB D i) (DN n a i)):=λ i hi r hr x hx=>((hRW i r hr x hx).le (by have:=AqV (k:=k) i (by omega);omega)).bt
 have gl : ∀ i,i<=6->Bt 300000000 (EB D i):=λ i hi=>((hDN i).le (by
  have:=(Afb hi).1
  have:=Nat.mul_le_mul_right (16*k) this
  omega)).bt
 have hCt:=λ(i:Nat) (q q':Bool) (hi:i<=6)=>Al3 N q q' (CU (EB D i) (DN n a i)) (EB D i) n 300000000 300000000 (vt i) (yc i hi) (gl i hi) (by omega) (by omega) (by omega)
 have Hv:=λ(i:Nat) (q q':Bool) (hi:i<=6)=>Amd N q q' (CU (EB D i) (DN n a i)) n 300000000 (vt i) (yc i hi) hn (by omega)
 have hMD:=λ(i:Nat) (hi:i<=6)=>FV N.toa5 (gl i hi) (gl i hi) (by omega) (by omega)
 have o9 : ∀ i,C1 (CU (EB D i) (DN n a i)) (CU (EB D i) (DN n a i)) n=CU (EB D (i+1)) (DN n a (i+1)):=λ i=>Af3 n a D i
 have Gl : ∀ i,(∀ r∈CU (EB D i) (DN n a i),C5 r+C5 r<=EB D i)↔GI (DN n a i)=true:=λ i=>Ajn hDp
 have hLs:=λ(j:Nat) (hj:j<=128)=>FV N.toa5 (Afd Pn j) Pn (show j*(16*k)<2199023255552 by
  have:=Nat.mul_le_mul_right (16*k) hj
  omega) (by omega)
 have Ik : ∀ (i:Nat) (q q':Bool),i<=6->Ev L 302 [.sl q (CZ q' (CU (EB D i) (DN n a i))),.agg (eQ (EB D i))] (.bool (GI (DN n a i))):=λ i q q' hi=>by
  have:=hCt i q q' hi
  rwa [show decide (∀ r∈CU (EB D i) (DN n a i),C5 r+C5 r<=EB D i)=GI (DN n a i) by rw[Bool.eq_iff_iff,decide_eq_true_iff];exact Gl i]at this
 have Hu : ∀ (i:Nat) (q q':Bool),i<=6->Ev L 299 [.sl q (CZ q' (CU (EB D i) (DN n a i)))] (.sl false (eM (CU (EB D (i+1)) (DN n a (i+1))))):=λ i q q' hi=>by
  have:=Hv i q q' hi
  rwa [o9]at this
 have jd : ∀ i,i<=6->Ev L 99 [.agg (eQ (EB D i)),.agg (eQ (EB D i))] (.agg (eQ (EB D (i+1)))):=hMD;have Pq : ∀ j:Nat,j<=128->Ev L 99 [.agg (eQ (D^j)),.agg (eQ D)] (.agg (eQ (D^(j+1)))):=λ j hj=>by
  have:=hLs j hj
  rwa [<-Rat.pow_succ]at this
 have Kt : ∀ q q':Bool,Ev L 302 [.sl q (CZ q' (CU D a)),.agg (eQ D)] (.bool (GI (DN n a 0))):=λ q q'=>Ik 0 q q' (by omega)
 have hS0 : ∀ q q':Bool,Ev L 299 [.sl q (CZ q' (CU D a))] (.sl false (eM (CU (EB D 1) (DN n a 1)))):=λ q q'=>Hu 0 q q' (by omega)
 have Kv:Ev L 99 [.agg (eQ D),.agg (eQ D)] (.agg (eQ (EB D 1))):=jd 0 (by omega);clear hCt Hv hMD hLs o9 Gl yc gl vt hRW hDN;refine Ev.xE N.ZF rfl rfl ?_;by_cases h0:n=0
 ·obtain rfl:a=[]:=List.length_eq_zero_iff.1 (by omega)
  have hb:GI (DN n [] 0)=true:=rfl;have Cq:=Kt false false;rw[hb]at Cq;have hC2:Ev L 302 [.sl false [],.agg (eQ D)] (.bool true):=Cq;have hP0:=Pq 0 (by omega);rw[Rat.pow_zero]at hP0;(repeat' ((first|apply AU|apply AE|refine AD (Bc) ?_|refine AD (hO) ?_)<;>conv=>whnf))
  refine G9 ?_;(repeat' ((first|(apply AG<;>intro hc<;>try (exfalso;omega))|apply AE)<;>conv=>whnf))
  refine G9 ?_;(repeat' ((first|(apply CB;omega)|(apply E0;omega)|apply AE|refine AD (hC2) ?_)<;>conv=>whnf))
  refine G9 ?_;(repeat' ((first|(apply AG<;>intro hc<;>try (exfalso;omega))|(apply AX;omega)|apply AE|refine AD (hP0) ?_)<;>conv=>whnf))
  refine G9 ?_;(repeat' ((first|(apply AG<;>intro hc<;>try (exfalso;omega))|apply AE)<;>conv=>whnf))
  refine ⟨.m9 [.agg (eF false [] D 1 (D^1)),.int .i64 0],?_,Or.inl ⟨0,by omega,⟨rfl,λ j hj=>absurd hj (by omega)⟩,rfl⟩⟩;exact AY rfl (vE [] D 1 (D^1) 0)
 (repeat' ((first|apply AU|apply AE|refine AD (Bc) ?_|refine AD (hO) ?_)<;>conv=>whnf))
 refine G8 (λ i _=>n-i) (λ(i:Nat) (fl:Bool)=>i<=n/\fl=decide (i=0)) (λ i _=>[(15,.int .i64 i)]) (λ i fl=>bif fl then [] else [(4,4,.bx ([.row 1000 0 1 0 i]++eQ D++[.int .i64 1]++eQ 1)),(1000,26,.rw 1 (((CU D a).take i).map λ r=>[AV.sl false (r.map eQ)]))]) [] [] 0 true (by (conv=>whnf);exact ⟨rfl,rfl,rfl⟩) ⟨by omega,rfl⟩ ?_;intro i fl ⟨p1,p2⟩ ih;have gm:((CU D a).take i).length=i:=by rw[List.length_take];omega
 by_cases hi:i<n
 ·obtain ⟨r,hr⟩ : ∃ r,a[i]? = some r:=⟨_,zE (by omega)⟩
  have ov:a[(i:Int).toNat]? = some r:=hr;have kn:=hs.at hr;have hTm:=λ q=>Amf N q r D k (16*k) (ha.at hr) Pn (by omega) (by omega) (by omega)
  have ji:=Qj i r hr;generalize r.map (· * D)=w at *;cases fl
  ·have vo:i≠0:=by simpa using p2.symm
   (repeat' ((first|(apply AG<;>intro hc<;>try (exfalso;omega))|(refine BH (by assumption) ?_ rfl ?_;omega)|apply EL|apply AE|refine AD (hTm _) ?_)<;>conv=>whnf))
   refine E6 (l:=(CU D a).take i) (z:=1) (bytes:=24) (enc:=λ r:List Rat=>[AV.sl false (r.map eQ)]) w rfl gm.symm rfl (by omega) (by omega) ?_;(conv=>whnf)
   (repeat' ((first|(apply AX;omega)|fail)<;>conv=>whnf))
   rw[<-aZ ji,show ((CU D a).take (i+1)).length=i+1 by rw[List.length_take];omega];exact BL [(1000,26)] (ih (i+1) false (by omega) ⟨by omega,by simp⟩)
  ·have vo:i=0:=by simpa using p2.symm
   subst vo;(repeat' ((first|(apply AG<;>intro hc<;>try (exfalso;omega))|(refine BH (by assumption) ?_ rfl ?_;omega)|apply EL|apply AE|refine AD (hTm _) ?_)<;>conv=>whnf))
   refine lE (enc:=λ r:List Rat=>[AV.sl false (r.map eQ)]) w rfl rfl (by omega) ?_;(conv=>whnf)
   (repeat' ((first|(apply AX;omega)|fail)<;>conv=>whnf))
   rw[show [w]=(CU D a).take (0+1) by rw[aZ ji];rfl];exact BL [(1000,26)] (ih 1 false (by omega) ⟨by omega,by simp⟩)
 have ei:i=n:=by omega
 obtain rfl:fl=false:=by rw[p2];simp;omega
 clear ih p2 gm;rw[ei,List.take_of_length_le (by omega)];(repeat' ((first|(apply AG<;>intro hc<;>try (exfalso;omega))|apply AE)<;>conv=>whnf))
 refine G8 (λ i _=>7-i) (λ(i:Nat) (fl:Bool)=>i<=6/\(fl=true->i=0) /\ ∀ j,j<i->GI (DN n a j)=false) (λ i fl=>[(7,bif fl then .row 1000 0 1 0 n else .sl false (eM (CU (EB D i) (DN n a i))))]) (λ i _=>[(8,8,.bx (eQ (EB D i))),(4,4,.bx ([.row 1000 0 1 0 n]++eQ D++[.int .i64 ((2^i:Nat):Int)]++eQ 1))]) [] [] 0 true (by (conv=>whnf);exact ⟨rfl,rfl,rfl⟩) ⟨by omega,λ_=>rfl,λ j hj=>absurd hj (by omega)⟩ ?_;intro i fl ⟨s1,s2,s3⟩ jh;obtain ⟨g1,g2,g3⟩:=Afb s1;have Si:((2^(i+1):Nat):Int)=((2^i:Nat):Int)*2:=by rw[Nat.pow_succ];omega
 have Ip:=λ q q'=>Ik i q q' s1
 have hsi:=λ q q'=>Hu i q q' s1
 have Rx:=jd i s1;cases hb:GI (DN n a i)
 ·rw[hb]at Ip
  by_cases h6:i=6
  ·have e64:((2^i:Nat):Int)=64:=by rw[h6];rfl
   have qk : ∀ j,j<=6->GI (DN n a j)=false:=λ j hj=>by
    by_cases h:j=6
    ·rw[h,<-h6];exact hb
    ·exact s3 j (by omega)
   cases fl
   ·rw[e64]
    (repeat' ((first|(apply AG<;>intro hc<;>try (exfalso;omega))|apply AE|refine AD (Ip _ _) ?_)<;>conv=>whnf))
    exact ⟨_,AY rfl (by simp [A6,CW,F2]),Or.inr ⟨qk,rfl⟩⟩
   ·exact absurd (s2 rfl) (by omega)
  ·have AFQ:((2^i:Nat):Int)≠64:=λ e=>h6 (g2 (by omega))
   have wc : ∀ j,j<i+1->GI (DN n a j)=false:=λ j hj=>by
    by_cases h:j=i
    ·rw[h];exact hb
    ·exact s3 j (by omega)
   cases fl
   ·generalize 2^i=P at *
    (repeat' ((first|(apply AG<;>intro hc<;>try (exfalso;omega))|(apply E0;omega)|apply AE|refine AD (Ip _ _) ?_|refine AD (hsi _ _) ?_|refine AD (Rx) ?_)<;>conv=>whnf))
    rw[<-Si];exact BL [] (jh (i+1) false (by omega) ⟨by omega,(λ h=>by cases h),wc⟩)
   ·obtain rfl:=s2 rfl
    have Cq:=Kt;rw[hb]at Cq;generalize 2^0=P at *;(repeat' (apply AE<;>conv=>whnf))
    refine DR (enc:=λ r:List Rat=>[AV.sl false (r.map eQ)]) (λ_=>rfl) rfl Eg.symm ?_;(conv=>whnf)
    (repeat' ((first|(apply AG<;>intro hc<;>try (exfalso;omega))|refine AD (Cq _ _) ?_)<;>conv=>whnf))
    refine DR (enc:=λ r:List Rat=>[AV.sl false (r.map eQ)]) (λ_=>rfl) rfl Eg.symm ?_;(conv=>whnf)
    (repeat' ((first|(apply E0;omega)|refine AD (hS0 _ _) ?_|refine AD (Kv) ?_)<;>conv=>whnf))
    rw[<-Si];exact BL [] (jh (0+1) false (by omega) ⟨by omega,(λ h=>by cases h),wc⟩)
 ·rw[hb]at Ip
  have Rl:lI n a i:=⟨hb,s3⟩;have fk : ∀ r:AV,r = .m9 [.agg (eF false (CU D a) D ((2^i:Nat):Int) (D^(2^i+2^i-1))),.int .i64 0]->((∃ i,i<=6/\lI n a i/\r = .m9 [.agg (eF false (CU D a) D ((2^i:Nat):Int) (D^(2^i+2^i-1))),.int .i64 0])\/((∀ j,j<=6->GI (DN n a j)=false)/\r = .m9 [.agg [.sl false [],.bool false,.sl false [],.sl false [],.int .i64 0,.bool false,.sl false [],.sl false []],.int .i64 14])):=λ r hr=>Or.inl ⟨i,s1,Rl,hr⟩
  clear Si jh;generalize 2^i=P at *;cases fl
  ·(repeat' ((first|(apply CB;omega)|(apply E0;omega)|apply AE|refine AD (Ip _ _) ?_)<;>conv=>whnf))
   refine B6 (λ j=>P+P-1-j) (λ(j:Nat)=>j<=P+P-1) (λ j=>[(54,.int .i64 j)]) (λ j=>[(4,4,.bx ([.row 1000 0 1 0 n]++eQ D++[.int .i64 (P:Int)]++eQ (D^j)))]) [] [] 0 (by rw[Rat.pow_zero];exact (by (conv=>whnf);exact ⟨rfl,rfl,rfl⟩)) (by omega) ?_;intro j t1 kh;by_cases hj:j<P+P-1
   ·have hl:=Pq j (by omega)
    (repeat' ((first|(apply AG<;>intro hc<;>try (exfalso;omega))|(apply AX;omega)|apply AE|refine AD (hl) ?_)<;>conv=>whnf))
    exact BL [] (kh (j+1) (by omega) (by omega))
   have ej:j=P+P-1:=by omega
   clear kh;rw[ej];(repeat' ((first|(apply AG<;>intro hc<;>try (exfalso;omega))|apply AE)<;>conv=>whnf))
   refine ⟨.m9 [.agg (eF false (CU D a) D (P:Int) (D^(P+P-1))),.int .i64 0],?_,fk _ rfl⟩;(conv=>whnf)
   refine DR (enc:=λ r:List Rat=>[AV.sl false (r.map eQ)]) (λ_=>rfl) rfl Eg.symm ?_;(conv=>whnf)
   exact AY rfl (vE _ _ _ _ 0)
  ·obtain rfl:=s2 rfl
   have Cq:=Kt;rw[hb]at Cq;(repeat' (apply AE<;>conv=>whnf))
   refine DR (enc:=λ r:List Rat=>[AV.sl false (r.map eQ)]) (λ_=>rfl) rfl Eg.symm ?_;(conv=>whnf)
   (repeat' ((first|(apply CB;omega)|(apply E0;omega)|refine AD (Cq _ _) ?_)<;>conv=>whnf))
   refine B6 (λ j=>P+P-1-j) (λ(j:Nat)=>j<=P+P-1) (λ j=>[(54,.int .i64 j)]) (λ j=>[(4,4,.bx ([.row 1000 0 1 0 n]++eQ D++[.int .i64 (P:Int)]++eQ (D^j)))]) [] [] 0 (by rw[Rat.pow_zero];exact (by (conv=>whnf);exact ⟨rfl,rfl,rfl⟩)) (by omega) ?_;intro j t1 kh;by_cases hj:j<P+P-1
   ·have hl:=Pq j (by omega)
    (repeat' ((first|(apply AG<;>intro hc<;>try (exfalso;omega))|(apply AX;omega)|apply AE|refine AD (hl) ?_)<;>conv=>whnf))
    exact BL [] (kh (j+1) (by omega) (by omega))
   have ej:j=P+P-1:=by omega
   clear kh;rw[ej];(repeat' ((first|(apply AG<;>intro hc<;>try (exfalso;omega))|apply AE)<;>conv=>whnf))
   refine ⟨.m9 [.agg (eF false (CU D a) D (P:Int) (D^(P+P-1))),.int .i64 0],?_,fk _ rfl⟩;(conv=>whnf)
   refine DR (enc:=λ r:List Rat=>[AV.sl false (r.map eQ)]) (λ_=>rfl) rfl Eg.symm ?_;(conv=>whnf)
   exact AY rfl (vE _ _ _ _ 0)
theorem Amc (N:cu L) (q q':Bool) (a:List (List Rat)) (n k:Nat) (hs:Sq n a) (ha:Ms k a) (hn:n<=4) (hk:k<=100000) :
  ∃ v,Ev L 306 [.sl q (CZ q' a)] v/\((∃ i,i<=6/\lI n a i/\v = .m9 [.int .i64 ((2^i:Nat):Int),.int .i64 0])\/((∀ j,j<=6->GI (DN n a j)=false)/\v = .m9 [.int .i64 0,.int .i64 14])):=by
 have dh:=hs.l;obtain ⟨v,hS,hv⟩:=Ame N q q' a n k hs ha hn hk;refine Ev.xE N.Y9 rfl rfl ?_;(repeat' ((first|(apply AG<;>intro hc<;>try (exfalso;omega))|apply AU|apply AE)<;>conv=>whnf))
 refine B6 (λ i=>n-i) (λ(i:Nat)=>i<=n) (λ i=>[(13,.int .i64 i)]) (λ_=>[]) [] [] 0 (by (conv=>whnf);exact ⟨rfl,rfl,rfl⟩) (by omega) ?_;intro i p1 ih;by_cases hi:i<n
 ·obtain ⟨r,hr⟩ : ∃ r,a[i]? = some r:=⟨_,zE (by omega)⟩
  have ov:a[(i:Int).toNat]? = some r:=hr;have gm:=hs.at hr;(repeat' ((first|(apply AG<;>intro hc<;>try (exfalso;omega))|(apply AX;omega)|apply AU|(refine BH (by assumption) ?_ rfl ?_;omega)|apply AE)<;>conv=>whnf))
  exact BL [] (ih (i+1) (by omega) (by omega))
 have ei:i=n:=by omega
 clear ih;rcases hv with ⟨t,h1,h2,rfl⟩|⟨h1,rfl⟩
 ·(repeat' ((first|(apply AG<;>intro hc<;>try (exfalso;omega))|apply AE|refine AD (hS) ?_)<;>conv=>whnf))
  exact ⟨_,AY rfl (by simp [A6,CW]),Or.inl ⟨t,h1,h2,rfl⟩⟩
 ·(repeat' ((first|(apply AG<;>intro hc<;>try (exfalso;omega))|apply AE|refine AD (hS) ?_)<;>conv=>whnf))
  exact ⟨_,AY rfl (by simp [A6,CW]),Or.inr ⟨h1,rfl⟩⟩
end Go.e9
