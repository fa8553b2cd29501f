/-
  State-space forms (layer 27), the program: zeros, at, degree, Valid, Controller.
-/
import Derived.Test.YtgdojcofnobpeaaGreatB11
import Derived.Test.YtgdojcofnobpeaaGreatB10
import Derived.Test.YtgdojcofnobpeaaGreatB9
import Derived.Test.YtgdojcofnobpeaaGreatB4
import Derived.Test.YtgdojcofnobpeaaGreatB1
set_option linter.unusedSimpArgs false
set_option linter.unusedVariables false
set_option linter.unnecessarySimpa false
namespace Go.Eng
open F
attribute [local irreducible] AH BJ B1 BD EZ CF CG CR CU DW B5 DT EG F7 DM CQ DR EE AR CW BW pw DC C9 EI ET E1 E7 EW D4 E8
variable {L:Lib}
set_option maxHeartbeats 16000000
theorem Aiy (N:StGLib L) (m:Nat) (hm:m<=65536):UM L 206 [.int .i64 (m:Int)] 3 ((List.replicate m (0:Rat)).map eQ):=by
 have hO:=LN N.toRatGLib 0 (by omega);refine UM.x N.TG rfl rfl ?_;(repeat' (apply BA<;>conv=>whnf));refine GU (enc:=eO) none m rfl rfl (by omega) ?_;(conv=>whnf);skip;refine DG (λ i=>m-i) (λ(i:Nat)=>i<=m) (λ i=>[(8,.int .i64 i)]) (λ i=>[(6,6,.rw 3 ((FU (List.replicate i 0) m).map eO))]) [] [] 0 (by first|exact (by (conv=>whnf);exact ⟨rfl,rfl,rfl⟩)|(rw[<-KS];exact (by (conv=>whnf);exact ⟨rfl,rfl,rfl⟩))) (by omega) ?_;intro i p1 ih;by_cases hi:i<m
 ·have hl:=JO (l:=List.replicate i (0:Rat)) (m:=m) (by simp;omega)
  have hs:=KU (l:=List.replicate i (0:Rat)) (m:=m) (x:=0) (by simp;omega);rw[List.length_replicate]at hs;(repeat' ((first|(apply BR<;>intro hc<;>try (exfalso;omega))|(apply CE;omega)|apply BA|refine BH (hO) ?_)<;>conv=>whnf));refine G8 (enc:=eO) (some 0) rfl (λ e=>by cases e<;>rfl) (by omega) ?_;(conv=>whnf);(repeat' ((first|(apply CJ;omega)|fail)<;>conv=>whnf));rw[hs];rw[show List.replicate i (0:Rat)++[0]=List.replicate (i+1) 0 by rw[List.replicate_succ']];exact C7 [] (ih (i+1) (by omega) (by omega))
 obtain rfl:i=m:=by omega
 clear ih;rw[K9 (by simp)];(repeat' ((first|(apply BR<;>intro hc<;>try (exfalso;omega))|apply BA)<;>conv=>whnf));exact ⟨rfl,rfl,by simp,rfl,KP _⟩
theorem nN (N:StGLib L) (q:Bool) (l:List Rat) (i:Int) (k:Nat) (h0:0<=i) (hl:Bs k l) (hk:k<2199023255552) (hn:l.length<=1000000):Ev L 205 [.sl q (l.map eQ),.int .i64 i] (.agg (eQ (l.getD i.toNat 0))):=by
 have hO:=LN N.toRatGLib 0 (by omega);refine Ev.x N.S7 rfl rfl ?_;by_cases hi:i<l.length
 ·obtain ⟨x,hx⟩ : ∃ x,l[i.toNat]? = some x:=⟨_,zE (by omega)⟩
  have hT:=XW N.toRatGLib (hl.at hx) hk;rw[UD hx];(repeat' ((first|(apply BR<;>intro hc<;>try (exfalso;omega))|apply CB|(refine CY (by assumption) ?_ rfl ?_;omega)|apply BA|refine BH (hT) ?_)<;>conv=>whnf));exact CK rfl (G3 _)
 ·rw[cX (l:=l) (by omega)]
  (repeat' ((first|(apply BR<;>intro hc<;>try (exfalso;omega))|apply CB|apply BA|refine BH (hO) ?_)<;>conv=>whnf))
  exact CK rfl (G3 _)
theorem yV (N:StGLib L) (q:Bool) (l:List Rat) (k:Nat) (ht:F3 l=l) (hl:Bs k l) (hk:k<2199023255552) (hn:l.length<=1000000):Ev L 204 [.sl q (l.map eQ)] (.int .i64 ((l.length-1:Nat):Int)):=by
 refine Ev.x N.TB rfl rfl ?_;(repeat' ((first|(apply D5;omega)|apply CB|apply BA)<;>conv=>whnf));refine W4 ?_;by_cases h2:l.length<=1
 ·(repeat' ((first|(apply BR<;>intro hc<;>try (exfalso;omega))|apply BA)<;>conv=>whnf))
  exact FF (by omega)
 ·obtain ⟨x,hx⟩ : ∃ x,l[l.length-1]? = some x:=⟨_,zE (by omega)⟩
  have hx':l[((l.length:Int)-1).toNat]? = some x:=by rw[show ((l.length:Int)-1).toNat=l.length-1 by omega];exact hx
  have Qv:=AlN ht (by omega);rw[UD hx]at Qv;have hS:=N6 N.toRatGLib (hl.at hx) hk;have hs:=OO (x:=x);generalize sgn x.num=s at *;have hs0:s≠0:=λ h=>Qv (hs.1 h)
  (repeat' ((first|(apply BR<;>intro hc<;>try (exfalso;omega))|(refine CY (by assumption) ?_ rfl ?_;omega)|apply BA|refine BH (hS) ?_)<;>conv=>whnf))
  exact FF (by omega)
theorem Aiu (N:StGLib L) (q1 q2:Bool) (B A:List Rat) (k:Nat) (hB:Bs k B) (hA:Bs k A) (hk:k<2199023255552) (lB:B.length<=49) (lA:A.length<=49) (h0:A[0]? = some 1):Ev L 201 [.agg [.sl q1 (B.map eQ),.sl q2 (A.map eQ)]] (.bool true):=by
 have c1:=T6 B B.length;have c2:=T6 A A.length;have ke:=yH N q1 B k hB hk (by omega);have kf:=yH N q2 A k hA hk (by omega);have hO:=LN N.toRatGLib 1 (by omega);have hC:=AhE N (Bt.one 1) (Bt.one 1) (by omega) (by omega);rw[dW.2 rfl]at hC;have hAl:0<A.length:=(zS h0).1;have mv:A[(0:Int).toNat]? = some 1:=h0;generalize FM B B.length=d1 at *;generalize FM A A.length=d2 at *;refine Ev.x N.SS rfl rfl ?_;(repeat' ((first|(apply BR<;>intro hc<;>try (exfalso;omega))|apply CB|(refine CY (by assumption) ?_ rfl ?_;omega)|apply BA|refine BH (ke) ?_|refine BH (kf) ?_|refine BH (hO) ?_|refine BH (hC) ?_)<;>conv=>whnf));exact I5 rfl
theorem Wr (B A:List Rat) (m:Nat):(G9 B A (m+1)).a.take 1=[(List.range (m+1)).map λ k => -(A.getD (k+1) 0)]:=by
 simp [G9,List.range_succ_eq_map]
theorem Ws {B A:List Rat} {n i:Nat} (h1:1<=i) (hi:i<n):(G9 B A n).a[i]? = some (FP n ((i-1:Nat):Int)):=by
 simp only[G9,List.getElem?_map,List.getElem?_range hi,Option.map_some];rw[if_neg (by omega)]
theorem vN {B A:List Rat} {n i:Nat} (hi:i<n):(G9 B A n).c[i]? = some (B.getD (i+1) 0-B.getD 0 0*A.getD (i+1) 0):=by
 simp only[G9,List.getElem?_map,List.getElem?_range hi,Option.map_some]
theorem Wt (B A:List Rat) (m:Nat):(G9 B A (m+1)).c.take 1=[B.getD 1 0-B.getD 0 0*A.getD 1 0]:=by
 rw[List.take_add_one,vN (by omega)];rfl
theorem vM (B A:List Rat) (n:Nat):(G9 B A n).a.length=n:=by simp [G9]
theorem vO (B A:List Rat) (n:Nat):(G9 B A n).c.length=n:=by simp [G9]
theorem eC {α:Type} {l:List α} {i:Nat} {x:α} (h:l[i]? = some x):l.take (i+1)=l.take i++[x]:=by
 rw[List.take_add_one,h];rfl
theorem bS (S:GA) (e:Int):CT (.tup [.agg (eS S),.int .i64 e]):=by
 have:=gJ S
 simp only[CT,FG,true_and,and_true]at this ⊢;exact this
theorem Ahn (N:StGLib L) (w1 w2:Bool) (B A:List Rat) (n k:Nat) (hB:F3 B=B) (hA:F3 A=A) (bB:Bs k B) (bA:Bs k A) (lB:B.length<=17) (lA:A.length<=17) (h0:A[0]? = some 1) (hn:max (B.length-1) (A.length-1)=n) (hk:k<=1000000) :
  Ev L 207 [.agg [.sl w1 (B.map eQ),.sl w2 (A.map eQ)]] (.tup [.agg (eS (G9 B A n)),.int .i64 0]):=by
 have hV:=Aiu N w1 w2 B A k bB bA (by omega) (by omega) (by omega) h0;have ke:=yV N w1 B k hB bB (by omega) (by omega);have kf:=yV N w2 A k hA bA (by omega) (by omega);have hO:=LN N.toRatGLib 1 (by omega);have hB0:=nN N w1 B 0 k (by omega) bB (by omega) (by omega);rw[show B.getD (0:Int).toNat 0=B.getD 0 0 from rfl]at hB0;have hZ:=Aiy N n (by omega);have Pg:Bt k (B.getD 0 0):=N9 bB 0;have oe : ∀ i:Nat,Ev L 205 [.sl w1 (B.map eQ),.int .i64 ((i:Int)+1)] (.agg (eQ (B.getD (i+1) 0)))/\Ev L 205 [.sl w2 (A.map eQ),.int .i64 ((i:Int)+1)] (.agg (eQ (A.getD (i+1) 0))) /\
   Ev L 99 [.agg (eQ (B.getD 0 0)),.agg (eQ (A.getD (i+1) 0))] (.agg (eQ (B.getD 0 0*A.getD (i+1) 0)))/\Ev L 150 [.agg (eQ (B.getD (i+1) 0)),.agg (eQ (B.getD 0 0*A.getD (i+1) 0))] (.agg (eQ (B.getD (i+1) 0-B.getD 0 0*A.getD (i+1) 0))) /\
   Ev L 199 [.agg (eQ (A.getD (i+1) 0))] (.agg (eQ (-(A.getD (i+1) 0)))):=λ i=>by
  have e1:=nN N w1 B ((i:Int)+1) k (by omega) bB (by omega) (by omega);have e2:=nN N w2 A ((i:Int)+1) k (by omega) bA (by omega) (by omega);rw[show ((i:Int)+1).toNat=i+1 by omega]at e1 e2;exact ⟨e1,e2,K8 N.toRatGLib Pg (N9 bA _) (by omega) (by omega),nO N.toRatHLib (N9 bB _) (Pg.mul (N9 bA _)) (by omega) (by omega),Ah1 N (N9 bA _) (by omega)⟩
 have hd:(G9 B A n).d=B.getD 0 0:=rfl;have hal:=vM B A n;have hcl:=vO B A n;have il:eS (G9 B A n)=[.sl false ((G9 B A n).a.map λ r=>[AV.sl false (r.map eQ)]),.sl false ((FP n 0).map eQ),.sl false ((G9 B A n).c.map eQ)]++eQ (B.getD 0 0):=rfl;have hfin:=bS (G9 B A n) 0;rw[il]at hfin ⊢;have Pv : ∀ i,1<=i->i<n->(G9 B A n).a[i]? = some (FP n ((i-1:Nat):Int)):=λ i h1 h2=>Ws h1 h2
 have hci : ∀ i,i<n->(G9 B A n).c[i]? = some (B.getD (i+1) 0-B.getD 0 0*A.getD (i+1) 0):=λ i h=>vN h
 have Af:0<n->(G9 B A n).a.take 1=[(List.range n).map λ k => -(A.getD (k+1) 0)]:=λ h=>by
  obtain ⟨m,rfl⟩ : ∃ m,n=m+1:=⟨n-1,by omega⟩;exact Wr B A m
 have hc1:0<n->(G9 B A n).c.take 1=[B.getD (0+1) 0-B.getD 0 0*A.getD (0+1) 0]:=λ h=>by
  obtain ⟨m,rfl⟩ : ∃ m,n=m+1:=⟨n-1,by omega⟩;exact Wt B A m
 have hr0 : ∀ j,j<n->((List.range n).map λ k => -(A.getD (k+1) 0))[j]? = some (-(A.getD (j+1) 0)):=λ j h=>by
  rw[List.getElem?_map,List.getElem?_range h];rfl
 have vo:((List.range n).map λ k => -(A.getD (k+1) 0)).length=n:=by simp
 have hul : ∀ j,(FP n j).length=n:=λ j=>TJ n j
 generalize (G9 B A n).a=a at *;generalize (G9 B A n).c=c at *;generalize (List.range n).map (λ k => -(A.getD (k+1) 0))=r0 at *;generalize B.getD 0 0=b0 at *;rcases Nat.lt_or_ge (B.length-1) (A.length-1) with e9|fp
 ·rw[show A.length-1=n by omega]at kf e9
  refine Ev.x N.NL rfl rfl ?_;(repeat' ((first|(apply BR<;>intro hc<;>try (exfalso;omega))|apply BA|refine BH (hV) ?_|refine BH (ke) ?_|refine BH (kf) ?_|refine BH (hB0) ?_)<;>conv=>whnf));refine UK (enc:=eQ) n hZ (by simp) ?_;(conv=>whnf);by_cases om:n=0
  ·skip
   exact absurd e9 (by omega)
  ·(repeat' ((first|(apply BR<;>intro hc<;>try (exfalso;omega))|(apply CE;omega)|refine BH (hO) ?_)<;>conv=>whnf))
   refine ZJ (enc:=eQ) 0 1 rfl rfl (λ_=>rfl) (by simp;omega) ?_;(conv=>whnf);rw[show (List.replicate n (0:Rat)).set 0 1=FP n 0 from Y1 n 0];skip;refine W4 ?_;(repeat' ((first|(apply BR<;>intro hc<;>try (exfalso;omega))|apply BA)<;>conv=>whnf));refine UK (enc:=eQ) n hZ (by simp) ?_;(conv=>whnf);(repeat' ((first|(apply BR<;>intro hc<;>try (exfalso;omega))|fail)<;>conv=>whnf));refine DG (λ j=>n-j) (λ(j:Nat)=>j<=n) (λ j=>[(50,.int .i64 j)]) (λ j=>[(41,41,.rw 3 ((cz r0 n j).map eQ))]) [] [] 0 (by first|exact (by (conv=>whnf);exact ⟨rfl,rfl,rfl⟩)|(rw[vY];exact (by (conv=>whnf);exact ⟨rfl,rfl,rfl⟩))) (by omega) ?_;intro j p1 ih;have ki:=vW (row:=r0) p1;by_cases hj:j<n
   ·have hst:=vX (hr0 j hj) hj
    obtain ⟨f1,f2,f3,f4,f5⟩:=oe j;(repeat' ((first|(apply BR<;>intro hc<;>try (exfalso;omega))|(apply CE;omega)|(apply CJ;omega)|apply BA|refine BH (f2) ?_|refine BH (f5) ?_)<;>conv=>whnf));refine G8 (enc:=eQ) (-(A.getD (j+1) 0)) rfl (λ_=>rfl) (by omega) ?_;(conv=>whnf);(repeat' ((first|(apply CJ;omega)|fail)<;>conv=>whnf));rw[hst];exact C7 [] (ih (j+1) (by omega) (by omega))
   obtain rfl:j=n:=by omega
   clear ih;rw[vV vo];obtain ⟨f1,f2,f3,f4,f5⟩:=oe 0;(repeat' ((first|(apply BR<;>intro hc<;>try (exfalso;omega))|apply BA)<;>conv=>whnf));refine CE ⟨by rw[List.length_map];omega,by omega⟩ ?_;(conv=>whnf);(repeat' ((first|(apply CJ;omega)|apply G0|refine BH (hB0) ?_|refine BH (f1) ?_|refine BH (f2) ?_|refine BH (f3) ?_|refine BH (f4) ?_)<;>conv=>whnf));refine ZA (enc:=eQ) (B.getD (0+1) 0-b0*A.getD (0+1) 0) rfl rfl (by omega) ?_;(conv=>whnf);(repeat' ((first|(apply CJ;omega)|fail)<;>conv=>whnf));refine DG (λ i=>j-i) (λ(i:Nat)=>1<=i/\i<=j) (λ i=>[(37,.int .i64 i)]) (λ i=>[(5,5,.bx ([.row 67 0 1 0 i,.row 28 0 3 0 j,.row 88 0 3 0 i]++eQ b0)),(67,67,.mx (C1 3 eQ (a.take i))),(88,88,.rw 3 ((c.take i).map eQ))]) [] [] 1 (by first|exact (by (conv=>whnf);exact ⟨rfl,rfl,rfl⟩)|(rw[Af (by omega),hc1 (by omega)];exact (by (conv=>whnf);exact ⟨rfl,rfl,rfl⟩))) (by omega) ?_;intro i ⟨g1,g2⟩ ih;have qi:(a.take i).length=i:=by rw[List.length_take];omega
   have ql:(c.take i).length=i:=by rw[List.length_take];omega
   by_cases hi:i<j
   ·obtain ⟨f1,f2,f3,f4,f5⟩:=oe i
    have hsa:=eC (Pv i g1 hi);have Hb:=eC (hci i hi);have qj:(a.take (i+1)).length=i+1:=by rw[List.length_take];omega
    have qm:(c.take (i+1)).length=i+1:=by rw[List.length_take];omega
    have Hj:=hul ((i-1:Nat):Int);(repeat' ((first|(apply BR<;>intro hc<;>try (exfalso;omega))|apply BA)<;>conv=>whnf));refine UK (enc:=eQ) j hZ (by simp) ?_;(conv=>whnf);(repeat' ((first|(apply BR<;>intro hc<;>try (exfalso;omega))|(apply CE;omega)|(apply D5;omega)|refine BH (hO) ?_)<;>conv=>whnf));refine ZJ (enc:=eQ) (i-1) 1 (by omega) rfl (λ_=>rfl) (by simp;omega) ?_;(conv=>whnf);rw[Y1];skip;refine CE (by rw[List.length_map];omega) ?_;refine Y8 (r:=FP j ((i-1:Nat):Int)) (en:=eQ) qi.symm (by omega) (by omega) ?_;rw[<-hsa,qj];(conv=>whnf);(repeat' ((first|(apply CJ;omega)|apply G0|refine BH (hB0) ?_|refine BH (f1) ?_|refine BH (f2) ?_|refine BH (f3) ?_|refine BH (f4) ?_)<;>conv=>whnf));refine HP (enc:=eQ) (B.getD (i+1) 0-b0*A.getD (i+1) 0) rfl ql.symm rfl (by omega) (by omega) ?_;rw[<-Hb,qm];(conv=>whnf);(repeat' ((first|(apply CJ;omega)|fail)<;>conv=>whnf));exact C7 [(67,1000067),(88,1000088)] (ih (i+1) (by omega) (by omega))
   obtain rfl:i=j:=by omega
   clear ih;rw[List.take_of_length_le (Nat.le_of_eq hal),List.take_of_length_le (Nat.le_of_eq hcl)]at *;(repeat' ((first|(apply BR<;>intro hc<;>try (exfalso;omega))|apply BA)<;>conv=>whnf));refine N1 (λ_=>rfl) rfl hal.symm ?_;(conv=>whnf);refine GK (enc:=eQ) (λ_=>rfl) rfl (hul 0).symm ?_;(conv=>whnf);refine GK (enc:=eQ) (λ_=>rfl) rfl hcl.symm ?_;(conv=>whnf);exact CK rfl hfin
 ·rw[show B.length-1=n by omega]at ke fp
  refine Ev.x N.NL rfl rfl ?_;(repeat' ((first|(apply BR<;>intro hc<;>try (exfalso;omega))|apply BA|refine BH (hV) ?_|refine BH (ke) ?_|refine BH (kf) ?_|refine BH (hB0) ?_)<;>conv=>whnf));refine UK (enc:=eQ) n hZ (by simp) ?_;(conv=>whnf);by_cases om:n=0
  ·skip
   subst om;(repeat' ((first|(apply BR<;>intro hc<;>try (exfalso;omega))|fail)<;>conv=>whnf));refine W4 ?_;(repeat' ((first|(apply BR<;>intro hc<;>try (exfalso;omega))|(refine GK (λ_=>rfl) rfl ?_ ?_;(first|rfl|simp))|apply BA)<;>conv=>whnf));rw[List.eq_nil_of_length_eq_zero hal,List.eq_nil_of_length_eq_zero hcl]at *;exact CK rfl hfin
  ·(repeat' ((first|(apply BR<;>intro hc<;>try (exfalso;omega))|(apply CE;omega)|refine BH (hO) ?_)<;>conv=>whnf))
   refine ZJ (enc:=eQ) 0 1 rfl rfl (λ_=>rfl) (by simp;omega) ?_;(conv=>whnf);rw[show (List.replicate n (0:Rat)).set 0 1=FP n 0 from Y1 n 0];skip;refine W4 ?_;(repeat' ((first|(apply BR<;>intro hc<;>try (exfalso;omega))|apply BA)<;>conv=>whnf));refine UK (enc:=eQ) n hZ (by simp) ?_;(conv=>whnf);(repeat' ((first|(apply BR<;>intro hc<;>try (exfalso;omega))|fail)<;>conv=>whnf));refine DG (λ j=>n-j) (λ(j:Nat)=>j<=n) (λ j=>[(50,.int .i64 j)]) (λ j=>[(41,41,.rw 3 ((cz r0 n j).map eQ))]) [] [] 0 (by first|exact (by (conv=>whnf);exact ⟨rfl,rfl,rfl⟩)|(rw[vY];exact (by (conv=>whnf);exact ⟨rfl,rfl,rfl⟩))) (by omega) ?_;intro j p1 ih;have ki:=vW (row:=r0) p1;by_cases hj:j<n
   ·have hst:=vX (hr0 j hj) hj
    obtain ⟨f1,f2,f3,f4,f5⟩:=oe j;(repeat' ((first|(apply BR<;>intro hc<;>try (exfalso;omega))|(apply CE;omega)|(apply CJ;omega)|apply BA|refine BH (f2) ?_|refine BH (f5) ?_)<;>conv=>whnf));refine G8 (enc:=eQ) (-(A.getD (j+1) 0)) rfl (λ_=>rfl) (by omega) ?_;(conv=>whnf);(repeat' ((first|(apply CJ;omega)|fail)<;>conv=>whnf));rw[hst];exact C7 [] (ih (j+1) (by omega) (by omega))
   obtain rfl:j=n:=by omega
   clear ih;rw[vV vo];obtain ⟨f1,f2,f3,f4,f5⟩:=oe 0;(repeat' ((first|(apply BR<;>intro hc<;>try (exfalso;omega))|apply BA)<;>conv=>whnf));refine CE ⟨by rw[List.length_map];omega,by omega⟩ ?_;(conv=>whnf);(repeat' ((first|(apply CJ;omega)|apply G0|refine BH (hB0) ?_|refine BH (f1) ?_|refine BH (f2) ?_|refine BH (f3) ?_|refine BH (f4) ?_)<;>conv=>whnf));refine ZA (enc:=eQ) (B.getD (0+1) 0-b0*A.getD (0+1) 0) rfl rfl (by omega) ?_;(conv=>whnf);(repeat' ((first|(apply CJ;omega)|fail)<;>conv=>whnf));refine DG (λ i=>j-i) (λ(i:Nat)=>1<=i/\i<=j) (λ i=>[(37,.int .i64 i)]) (λ i=>[(5,5,.bx ([.row 67 0 1 0 i,.row 28 0 3 0 j,.row 88 0 3 0 i]++eQ b0)),(67,67,.mx (C1 3 eQ (a.take i))),(88,88,.rw 3 ((c.take i).map eQ))]) [] [] 1 (by first|exact (by (conv=>whnf);exact ⟨rfl,rfl,rfl⟩)|(rw[Af (by omega),hc1 (by omega)];exact (by (conv=>whnf);exact ⟨rfl,rfl,rfl⟩))) (by omega) ?_;intro i ⟨g1,g2⟩ ih;have qi:(a.take i).length=i:=by rw[List.length_take];omega
   have ql:(c.take i).length=i:=by rw[List.length_take];omega
   by_cases hi:i<j
   ·obtain ⟨f1,f2,f3,f4,f5⟩:=oe i
    have hsa:=eC (Pv i g1 hi);have Hb:=eC (hci i hi);have qj:(a.take (i+1)).length=i+1:=by rw[List.length_take];omega
    have qm:(c.take (i+1)).length=i+1:=by rw[List.length_take];omega
    have Hj:=hul ((i-1:Nat):Int);(repeat' ((first|(apply BR<;>intro hc<;>try (exfalso;omega))|apply BA)<;>conv=>whnf));refine UK (enc:=eQ) j hZ (by simp) ?_;(conv=>whnf);(repeat' ((first|(apply BR<;>intro hc<;>try (exfalso;omega))|(apply CE;omega)|(apply D5;omega)|refine BH (hO) ?_)<;>conv=>whnf));refine ZJ (enc:=eQ) (i-1) 1 (by omega) rfl (λ_=>rfl) (by simp;omega) ?_;(conv=>whnf);rw[Y1];skip;refine CE (by rw[List.length_map];omega) ?_;refine Y8 (r:=FP j ((i-1:Nat):Int)) (en:=eQ) qi.symm (by omega) (by omega) ?_;rw[<-hsa,qj];(conv=>whnf);(repeat' ((first|(apply CJ;omega)|apply G0|refine BH (hB0) ?_|refine BH (f1) ?_|refine BH (f2) ?_|refine BH (f3) ?_|refine BH (f4) ?_)<;>conv=>whnf));refine HP (enc:=eQ) (B.getD (i+1) 0-b0*A.getD (i+1) 0) rfl ql.symm rfl (by omega) (by omega) ?_;rw[<-Hb,qm];(conv=>whnf);(repeat' ((first|(apply CJ;omega)|fail)<;>conv=>whnf));exact C7 [(67,1000067),(88,1000088)] (ih (i+1) (by omega) (by omega))
   obtain rfl:i=j:=by omega
   clear ih;rw[List.take_of_length_le (Nat.le_of_eq hal),List.take_of_length_le (Nat.le_of_eq hcl)]at *;(repeat' ((first|(apply BR<;>intro hc<;>try (exfalso;omega))|apply BA)<;>conv=>whnf));refine N1 (λ_=>rfl) rfl hal.symm ?_;(conv=>whnf);refine GK (enc:=eQ) (λ_=>rfl) rfl (hul 0).symm ?_;(conv=>whnf);refine GK (enc:=eQ) (λ_=>rfl) rfl hcl.symm ?_;(conv=>whnf);exact CK rfl hfin
def KH (a:List (List Rat)):List (List Rat):=(List.range a.length).map (ED a)
theorem AlO {a:List (List Rat)} {i:Nat} (h:i<a.length):(KH a)[i]? = some (ED a i):=by
 simp only[KH,List.getElem?_map,List.getElem?_range h,Option.map_some]
theorem rV (a:List (List Rat)):(KH a).length=a.length:=by simp [KH]
theorem Wo {a:List (List Rat)} {i j:Nat} {r:List Rat} {x:Rat} (hr:a[j]? = some r) (hx:r[i]? = some x):(ED a i)[j]? = some x:=by
 simp only[ED,List.getElem?_map,hr,Option.map_some,UD hx]
theorem Wv {B A:List Rat} {n:Nat} : ∀ r∈(G9 B A n).a,r.length=n:=by
 intro r hr;simp only[G9,List.mem_map]at hr;obtain ⟨i,_,rfl⟩:=hr;split
 ·simp
 ·exact TJ _ _
theorem Se {R:List (Option (Nat × List (List AV)))} {e:Nat} {r:Option (Nat × List (List AV))} {K:Option (Nat × List (List AV))->Prop} (h:R[e]? = some r) (hk:K r):DC R e K:=by
 unfold DC;exact ⟨r,h,hk⟩
theorem AiE (N:StGLib L) (q:Bool) (a:List (List Rat)) (n:Nat) (hal:a.length=n) (har : ∀ r∈a,r.length=n) (hn:n<=65536):Ev L 212 [.sl q (a.map λ r=>[AV.sl false (r.map eQ)])] (.sl false ((KH a).map λ r=>[AV.sl false (r.map eQ)])):=by
 have hat : ∀ i,i<n->(KH a)[i]? = some (ED a i):=λ i h=>AlO (by omega)
 have htl:=rV a;have hcol : ∀ i,(ED a i).length=n:=λ i=>by simp [ED,hal]
 have hx : ∀ i j,i<n->j<n -> ∃ r x,a[j]? = some r/\r[i]? = some x/\(ED a i)[j]? = some x:=λ i j h1 h2=>by
  obtain ⟨r,hr⟩ : ∃ r,a[j]? = some r:=⟨_,zE (by omega)⟩;have hrl:=har r (zM hr);obtain ⟨x,hx⟩ : ∃ x,r[i]? = some x:=⟨_,zE (by omega)⟩;exact ⟨r,x,hr,hx,Wo hr hx⟩
 generalize hT:KH a=T at *;refine Ev.x N.SR rfl rfl ?_;(repeat' ((first|apply CB|apply BA)<;>conv=>whnf));unfold E1;refine ⟨⟨by omega,by omega,by simp only[FR];omega,by omega⟩,?_⟩;rw[Int.toNat_natCast,hal];(conv=>whnf);skip;refine DG (λ i=>n-i) (λ(i:Nat)=>i<=n) (λ i=>[(4,.int .i64 i)]) (λ i=>[(8,8,.mx (mz T n i))]) [] [] 0 (by first|exact (by (conv=>whnf);exact ⟨rfl,rfl,rfl⟩)|(rw[<-YF T];exact (by (conv=>whnf);exact ⟨rfl,rfl,rfl⟩))) (by omega) ?_;intro i p1 ih;have hzl:=YD (Q:=T) p1;by_cases hi:i<n
 ·have hst:=YE (hat i hi) hi
  have hci:=hcol i;have hnone:(mz T n i)[i]? = some none:=by
   have hl:(C1 3 eQ (T.take i)).length=i:=by simp only[C1,List.length_map,List.length_take];omega
   have:=zU (z:=(none:Option (Nat × List (List AV)))) (l:=C1 3 eQ (T.take i)) (m:=n) (by omega)
   rw[hl]at this;exact this
  obtain ⟨r,x,e1,e2,e3⟩:=hx i 0 hi (by omega);have e1':a[(0:Int).toNat]? = some r:=e1;have e2':r[(i:Int).toNat]? = some x:=e2;have hrl:=har r (zM e1);have hc1:(ED a i).take 1=[x]:=by rw[List.take_add_one,e3];rfl
  generalize mz T n i=R0 at *;(repeat' ((first|(apply BR<;>intro hc<;>try (exfalso;omega))|apply CB|apply BA)<;>conv=>whnf));refine W4 ?_;(repeat' ((first|(apply BR<;>intro hc<;>try (exfalso;omega))|(apply CE;omega)|apply CB|apply BA)<;>conv=>whnf));refine Se (r:=none) (by rw[Nat.zero_add,Int.toNat_natCast];exact hnone) ?_;(conv=>whnf);(repeat' ((first|(refine CY (by assumption) ?_ rfl ?_;omega)|apply G0)<;>conv=>whnf));refine ZA (enc:=eQ) x rfl rfl (by omega) ?_;(conv=>whnf);(repeat' ((first|(apply CE;omega)|fail)<;>conv=>whnf));refine CE rfl ?_;refine OV (i:=i) (by omega) (by omega) ?_;(conv=>whnf);(repeat' ((first|(apply CJ;omega)|fail)<;>conv=>whnf));refine DG (λ j=>n-j) (λ(j:Nat)=>1<=j/\j<=n) (λ j=>[(5,.int .i64 j)]) (λ j=>[(8,8,.mx (R0.set i (some (3,((ED a i).take j).map eQ))))]) [] [] 1 (by first|exact (by (conv=>whnf);exact ⟨rfl,rfl,rfl⟩)|(rw[hc1];exact (by (conv=>whnf);exact ⟨rfl,rfl,rfl⟩))) (by omega) ?_;intro j ⟨r1,r2⟩ jh;have htj:((ED a i).take j).length=j:=by rw[List.length_take];omega
  by_cases hj:j<n
  ·obtain ⟨r,x,e1,e2,e3⟩:=hx i j hi hj
   have e1':a[(j:Int).toNat]? = some r:=e1;have e2':r[(i:Int).toNat]? = some x:=e2;have hrl:=har r (zM e1);have hs:=eC e3;have htj1:((ED a i).take (j+1)).length=j+1:=by rw[List.length_take];omega
   generalize (ED a i).take j=W at *;(repeat' ((first|(apply BR<;>intro hc<;>try (exfalso;omega))|(apply CE;omega)|apply CB|apply BA)<;>conv=>whnf));refine MW (by omega) (by omega) ?_;(conv=>whnf);(repeat' ((first|(refine CY (by assumption) ?_ rfl ?_;omega)|apply G0)<;>conv=>whnf));refine L3 (by omega) (by omega) ?_;(conv=>whnf);refine HP (enc:=eQ) x rfl (by rw[List.length_map]) rfl (by omega) (by omega) ?_;intro s' v;rw[<-hs,htj1];(conv=>whnf);(repeat' ((first|(apply CE;omega)|fail)<;>conv=>whnf));refine CE ⟨rfl,by rw[List.length_map];omega⟩ ?_;refine OV (i:=i) (by omega) (by rw[List.length_set,List.length_set];omega) ?_;rw[show 0+((i:Int)).toNat=i by omega,List.set_set,List.set_set];(conv=>whnf);(repeat' ((first|(apply CJ;omega)|fail)<;>conv=>whnf));exact C7 [] (jh (j+1) (by omega) (by omega))
  obtain rfl:j=n:=by omega
  clear jh;rw[List.take_of_length_le (by omega),hst];(repeat' ((first|(apply BR<;>intro hc<;>try (exfalso;omega))|(apply CJ;omega)|apply CB|apply BA)<;>conv=>whnf));exact C7 [] (ih (i+1) (by omega) (by omega))
 obtain rfl:i=n:=by omega
 clear ih;rw[X9 (by omega)];(repeat' ((first|(apply BR<;>intro hc<;>try (exfalso;omega))|apply CB|apply BA)<;>conv=>whnf));refine N1 (λ_=>rfl) rfl (by omega) ?_;(conv=>whnf);exact CK rfl (by
  have:=gJ ⟨T,[],[],0⟩
  simp only[CT,FG,true_and,and_true]at this ⊢;have h2:=this.1;simp only[CT,true_and]at h2;exact h2)
def aE (v:Int):Rat:=Rat.divInt (v%25-12) (1+v/25%8)
def JH (l:List Int) (n:Nat):List Rat:=(List.range n).map λ i:Nat=>aE (J0 (K6 l (i:Int)) 2000)
theorem aF (l:List Int) (n:Nat):(JH l n).length=n:=by simp [JH]
theorem AkK (l:List Int) (n:Nat):JH l (n+1)=JH l n++[aE (J0 (K6 l (n:Int)) 2000)]:=by simp [JH,List.range_succ]
theorem AkJ {v:Int} (h:0<=v):Bt 4 (aE v):=by
 unfold aE;obtain ⟨d,hd⟩:=Int.eq_ofNat_of_zero_le (show 0<=1+v/25%8 by omega);rw[hd,Rat.divInt_ofNat];refine Bt.mk ?_ ?_
 ·show _<=16;omega
 ·show _<=16;omega
theorem La (l:List Int) (n:Nat):Bs 4 (JH l n):=by
 intro x hx;simp only[JH,List.mem_map]at hx;obtain ⟨i,_,rfl⟩:=hx;refine AkJ ?_;unfold J0;split<;>omega
theorem xT (N:RatsGLib L) (l:List Int) (q:Bool) (n:Nat) (hl : ∀ x∈l,LF x) (hn:n<=1000000):Ev L 141 [.sl q (l.map WC),.int .i64 (n:Int)] (.sl false ((JH l n).map eQ)):=by
 have hat : ∀ i:Nat,LF (K6 l (i:Int)):=λ i=>by
  unfold K6;split
  ·rw[List.getD_eq_getElem?_getD]
   cases e:l[((i:Int)).toNat]? with
   | none=>simp [LF]
   | some x=>exact hl x (zM e)
  ·simp [LF]
 refine Ev.x N.TN rfl rfl ?_;(repeat' (apply BA<;>conv=>whnf));refine DG (λ i=>n-i) (λ(i:Nat)=>i<=n) (λ i=>[(6,.int .i64 i),(5,.row 5 0 3 0 i)]) (λ i=>[(5,5,.rw 3 ((JH l i).map eQ))]) [] [] 0 (by (conv=>whnf);exact ⟨rfl,rfl,rfl⟩) (by omega) ?_;intro i p1 ih;by_cases hi:i<n
 ·have hA:=yX N.toWorldLib l q (i:Int)
  have hA':=λ q=>yX N.toWorldLib l q (i:Int)
  have hW:=yY N.toWorldLib (K6 l (i:Int)) 2000 (hat i) (by omega);have hw0:0<=J0 (K6 l (i:Int)) 2000/\J0 (K6 l (i:Int)) 2000<2000:=by unfold J0;split<;>omega
  have hsucc:=AkK l i;have hlen:=aF l i;have hF:=yP N.toRefGLib (J0 (K6 l (i:Int)) 2000%25-12) (1+J0 (K6 l (i:Int)) 2000/25%8) (by omega) (by omega);have hF':Ev L 125 [.int .i64 (J0 (K6 l (i:Int)) 2000%25-12),.int .i64 (1+J0 (K6 l (i:Int)) 2000/25%8)] (.agg (eQ (aE (J0 (K6 l (i:Int)) 2000)))):=hF;clear hF;generalize aE (J0 (K6 l (i:Int)) 2000)=y at *;generalize J0 (K6 l (i:Int)) 2000=v at *;(repeat' ((first|(apply BR<;>intro hc<;>try (exfalso;omega))|(apply CJ;omega)|(apply D5;omega)|(refine ZG ?_ (λ_ _ _ => ?_) (λ_ _ _ _ => ?_);omega;all_goals try (exfalso;omega))|(refine XA ?_ ?_ (λ_ => ?_) (λ_ _ => ?_);omega;omega;all_goals try (exfalso;omega))|apply G0|apply BA|refine BH (hA' _) ?_|refine BH (hW) ?_|refine BH (hF') ?_)<;>conv=>whnf));refine HP (enc:=eQ) y rfl hlen.symm rfl (by omega) (by omega) ?_;(conv=>whnf);(repeat' ((first|(apply CJ;omega)|fail)<;>conv=>whnf));rw[show (JH l i++[y]).length=i+1 by simp [hlen],<-hsucc];exact C7 [(5,27)] (ih (i+1) (by omega) (by omega))
 ·obtain rfl:i=n:=by omega
  clear ih;have hlen:=aF l i;(repeat' ((first|(apply BR<;>intro hc<;>try (exfalso;omega))|apply BA)<;>conv=>whnf));refine GK (enc:=eQ) (λ_=>rfl) rfl hlen.symm ?_;(conv=>whnf);exact CK rfl (by simp only[CT,true_and];exact KP _)
def SY (X:List Rat) (n j:Nat):List Rat:=(X.take (j*n+n)).drop (j*n)
def IY (X:List Rat) (n i:Nat):List (List Rat):=(List.range i).map (SY X n)
theorem Nj (X:List Rat) (n i:Nat):IY X n (i+1)=IY X n i++[SY X n i]:=by simp [IY,List.range_succ]
def YY (l:List Int) (n:Nat):GA :=
 let X:=JH l (n*n+2*n+1)
 ⟨IY X n n,(X.take (n*n+n)).drop (n*n),(X.take (n*n+2*n)).drop (n*n+n),X.getD (n*n+2*n) 0⟩
theorem AhC (N:RatsGLib L) (l:List Int) (q:Bool) (n:Nat) (hl : ∀ x∈l,LF x) (hn:n<=64):Ev L 142 [.sl q (l.map WC),.int .i64 (n:Int)] (.agg (eS (YY l n))):=by
 have hnn:n*n<=4096:=Nat.mul_le_mul hn hn;have hR:=λ q=>xT N l q (n*n+2*n+1) hl (by omega)
 have hXl:=aF l (n*n+2*n+1);have hc1:((n*n+2*n+1:Nat):Int)=(n:Int)*n+2*n+1:=by simp
 rw[hc1]at hR;have e1:((n:Int)*n).toNat=n*n:=by rw[<-Int.natCast_mul];rfl
 have e2:((n:Int)*n+n).toNat=n*n+n:=by rw[<-Int.natCast_mul];omega
 have e3:((n:Int)*n+2*n).toNat=n*n+2*n:=by rw[<-Int.natCast_mul];omega
 unfold YY;simp only[];generalize JH l (n*n+2*n+1)=X at *;obtain ⟨d,nb⟩ : ∃ d,X[n*n+2*n]? = some d:=⟨_,zE (by omega)⟩;have hd1:X[((n:Int)*n+2*n).toNat]? = some d:=by rw[e3];exact nb
 have hdD:X.getD (n*n+2*n) 0=d:=by rw[List.getD_eq_getElem?_getD,nb];rfl
 rw[hdD];refine Ev.x N.TP rfl rfl ?_;(repeat' ((first|(apply CJ;omega)|(apply NW;omega)|(refine CY (by assumption) ?_ rfl ?_;omega)|(refine ZH (λ_=>rfl) (aT ?_ ?_);omega)|apply BA|refine BH (hR _) ?_)<;>conv=>whnf));rw[e1,e2,e3];generalize (X.take (n*n+n)).drop (n*n)=B at *;generalize (X.take (n*n+2*n)).drop (n*n+n)=C at *;refine I4 (λ i _=>n-i) (λ(i:Nat) (fl:Bool)=>i<=n/\fl=decide (i=0)) (λ i _=>[(7,.int .i64 i)]) (λ i fl=>bif fl then [] else [(6,6,.bx ([.row 1000 0 1 0 i,.sl false (B.map eQ),.sl false (C.map eQ)]++eQ d)),(1000,68,.rw 1 ((IY X n i).map λ r=>[AV.sl false (r.map eQ)]))]) [] [] 0 true (by (conv=>whnf);exact ⟨rfl,rfl,rfl⟩) ⟨by omega,by simp⟩ ?_;intro i fl ⟨p1,p2⟩ ih;have hrl:(IY X n i).length=i:=by simp [IY]
 by_cases hi:i<n
 ·have h1:i*n+n<=n*n:=by
   have:=Nat.mul_le_mul_right n (show i+1<=n by omega)
   rw[Nat.succ_mul]at this;exact this
  have f1:((i:Int)*n).toNat=i*n:=by rw[<-Int.natCast_mul];rfl
  have f2:((i:Int)*n+n).toNat=i*n+n:=by rw[<-Int.natCast_mul];omega
  have f3:0<=(i:Int)*n:=by rw[<-Int.natCast_mul];omega
  have f4:(i:Int)*n+n<=X.length:=by rw[<-Int.natCast_mul];omega
  have f5:SY X n i=(X.take (i*n+n)).drop (i*n):=rfl;have hsucc:=Nj X n i;cases fl
  ·have gl:i≠0:=by simpa using p2.symm
   (repeat' ((first|(apply BR<;>intro hc<;>try (exfalso;omega))|(apply CJ;omega)|(apply NW;omega)|(refine ZH (λ_=>rfl) (aT ?_ ?_);omega)|apply G0|apply BA)<;>conv=>whnf))
   rw[f1,f2,<-f5];refine HP (l:=IY X n i) (z:=1) (bytes:=24) (enc:=λ r:List Rat=>[AV.sl false (r.map eQ)]) (SY X n i) rfl hrl.symm rfl (by omega) (by omega) ?_;(conv=>whnf);(repeat' ((first|(apply CJ;omega)|fail)<;>conv=>whnf));rw[<-hsucc,show (IY X n (i+1)).length=i+1 by simp [IY]];exact C7 [(1000,68)] (ih (i+1) false (by omega) ⟨by omega,by simp⟩)
  ·have gl:i=0:=by simpa using p2.symm
   subst gl;(repeat' ((first|(apply BR<;>intro hc<;>try (exfalso;omega))|(apply CJ;omega)|(apply NW;omega)|(refine ZH (λ_=>rfl) (aT ?_ ?_);omega)|apply G0|apply BA)<;>conv=>whnf));rw[f1,f2,<-f5];refine ZA (enc:=λ r=>[AV.sl false (r.map eQ)]) (SY X n 0) rfl rfl (by omega) ?_;(conv=>whnf);(repeat' ((first|(apply CJ;omega)|fail)<;>conv=>whnf));exact C7 [(1000,68)] (ih 1 false (by omega) ⟨by omega,by simp⟩)
 ·obtain rfl:i=n:=by omega
  clear ih;cases fl
  ·(repeat' ((first|(apply BR<;>intro hc<;>try (exfalso;omega))|apply BA)<;>conv=>whnf))
   refine GK (enc:=λ r=>[AV.sl false (r.map eQ)]) (λ_=>rfl) rfl hrl.symm ?_;(conv=>whnf);skip;exact CK rfl (gJ _)
  ·have gl:i=0:=by simpa using p2.symm
   subst gl;(repeat' ((first|(apply BR<;>intro hc<;>try (exfalso;omega))|apply BA)<;>conv=>whnf));exact CK rfl (gJ ⟨[],B,C,d⟩)
end Go.Eng


namespace Go.Eng
open F
attribute [local irreducible] AH BJ B1 BD EZ CF CG CR CU DW B5 DT EG F7 DM CQ DR EE AR CW BW pw DC C9 EI ET E1 E7 EW D4 E8
variable {L:Lib}
set_option maxHeartbeats 16000000
set_option maxRecDepth 8000
theorem Ng {X:List Rat} {n j:Nat} (h:j*n+n<=X.length):(SY X n j).length=n:=by
 simp only[SY,List.length_drop,List.length_take];omega
theorem Aly (l:List Int) (n:Nat):(YY l n).Ok n 4:=by
 have hX:=aF l (n*n+2*n+1);have hb:=La l (n*n+2*n+1);have mem : ∀ (i j:Nat) (x:Rat),x∈((JH l (n*n+2*n+1)).take j).drop i->Bt 4 x:=λ i j x hx=>hb x (List.mem_of_mem_take (List.mem_of_mem_drop hx))
 have hr : ∀ r∈IY (JH l (n*n+2*n+1)) n n,∃ j,j<n/\r=SY (JH l (n*n+2*n+1)) n j:=λ r hr=>by
  simp only[IY,List.mem_map,List.mem_range]at hr;obtain ⟨j,h1,rfl⟩:=hr;exact ⟨j,h1,rfl⟩
 refine ⟨by simp [YY,IY],?_,?_,?_,?_,λ x hx=>mem _ _ x hx,λ x hx=>mem _ _ x hx,?_⟩
 ·intro r h
  obtain ⟨j,h1,rfl⟩:=hr r h;refine Ng ?_;have:=Nat.mul_le_mul_right n (show j+1<=n by omega);rw[Nat.succ_mul]at this;omega
 ·simp only[YY,List.length_drop,List.length_take];omega
 ·simp only[YY,List.length_drop,List.length_take];omega
 ·intro r h x hx
  obtain ⟨j,h1,rfl⟩:=hr r h;exact mem _ _ x hx
 ·show Bt 4 ((JH l (n*n+2*n+1)).getD (n*n+2*n) 0)
  rw[List.getD_eq_getElem?_getD];cases e:(JH l (n*n+2*n+1))[n*n+2*n]? with
  | none=>exact Bt.zero 4
  | some x=>exact hb.at e
theorem GA.Ok.le {S:GA} {n k j:Nat} (h:S.Ok n k) (hj:k<=j):S.Ok n j:=⟨h.la,h.lr,h.lb,h.lc,λ r hr=>(h.ba r hr).le hj,h.bb.le hj,h.bc.le hj,h.bd.le hj⟩
theorem AiC (N:EquGLib L) (S:GA) (n k:Nat) (h:S.Ok n k) (hn:n<=16):Ev L 281 [.agg (eS S)] (.bool true):=by
 have ue:=xV N.toSysGLib S n k h (by omega);have hla:=h.la;refine Ev.x N.TF rfl rfl ?_;(repeat' ((first|(apply BR<;>intro hc<;>try (exfalso;omega))|apply CB|apply BA|refine BH (ue) ?_)<;>conv=>whnf));exact I5 rfl
theorem Aiz (N:EquGLib L) (S:GA) (n k:Nat) (h:S.Ok n k) (hn:n<=16):Ev L 284 [.agg (eS S)] (.bool true):=by
 have ue:=AhB N.toSysGLib S n k h (by omega);have hla:=h.la;refine Ev.x N.SP rfl rfl ?_;(repeat' ((first|(apply BR<;>intro hc<;>try (exfalso;omega))|apply CB|apply BA|refine BH (ue) ?_)<;>conv=>whnf));exact I5 rfl
theorem xW (N:t7 L) (m:List (List Rat)) (b:List Rat) (q1 q2 q3:Bool) (n k s:Nat) (hs:Sq n m) (hb:b.length=n) (hm:Ms k m) (hbb:Bs s b) (hn:n<=4) (hK:4*(k+s+1)+k+s<2199023255552):Ev L 138 [.sl q1 (FE q3 m),.sl q2 (b.map eQ)] (.sl false ((CO m b).map eQ)):=by
 have hml:=hs.l;have hvl:=LA m b;refine Ev.x N.SM rfl rfl ?_;(repeat' (apply BA<;>conv=>whnf));refine DG (λ j=>m.length-j) (λ(j:Nat)=>j<=m.length) (λ j=>[(6,.int .i64 j),(5,.row 138005 0 3 0 j)]) (λ j=>[(138005,138005,.rw 3 (((CO m b).take j).map eQ))]) [] [] 0 (by (conv=>whnf);exact ⟨rfl,rfl,rfl⟩) (by omega) ?_;intro j r1 jh;have hlen:((CO m b).take j).length=j:=by rw[List.length_take];omega
 by_cases hj:j<m.length
 ·obtain ⟨r,hr⟩ : ∃ r,m[j]? = some r:=⟨_,zE hj⟩
  have hr':m[(j:Int).toNat]? = some r:=hr;have hrl:=hs.at hr;have hP2:=λ q q'=>Ahp N r b q q' k s (by omega) (hm.at hr) hbb (by rw[hrl];have:=Nat.mul_le_mul_right (k+s+1) hn;omega) (by omega)
  have hy:(CO m b)[j]? = some (CI r b):=by rw[CO,List.getElem?_map,hr];rfl
  have uy:((CO m b).take (j+1)).length=j+1:=by rw[List.length_take];omega
  (repeat' ((first|(apply BR<;>intro hc<;>try (exfalso;omega))|apply CB|(refine CY (by assumption) ?_ rfl ?_;omega)|apply G0|apply BA|refine BH (hP2 _ _) ?_)<;>conv=>whnf))
  refine HP (enc:=eQ) (CI r b) rfl hlen.symm rfl (by omega) (by omega) ?_;(conv=>whnf);(repeat' ((first|(apply CJ;omega)|fail)<;>conv=>whnf));rw[<-LE hy,uy];exact C7 [(138005,138021)] (jh (j+1) (by omega) (by omega))
 obtain rfl:j=m.length:=by omega
 clear jh;rw[List.take_of_length_le (by omega)];(repeat' ((first|(apply BR<;>intro hc<;>try (exfalso;omega))|apply CB|apply BA)<;>conv=>whnf));refine GK (enc:=eQ) (λ_=>rfl) rfl hvl.symm ?_;(conv=>whnf);exact CK rfl (by simp only[CT,true_and];exact KP _)
end Go.Eng

namespace Go.Eng
def cmb (f:Rat) (r t:List Rat):List Rat:=List.zipWith (λ x y=>x-f*y) r t
theorem lU {f:Rat} {r t:List Rat} (h:r.length=t.length):(cmb f r t).length=r.length:=by simp [cmb,h]
theorem vC {f:Rat} {r t:List Rat} {j:Nat} {x y:Rat} (hx:r[j]? = some x) (hy:t[j]? = some y):(cmb f r t)[j]? = some (x-f*y):=by
 simp [cmb,List.getElem?_zipWith,hx,hy]
theorem vE {f:Rat} : ∀ {r t:List Rat} {z:Rat},z∈cmb f r t -> ∃ x∈r,∃ y∈t,z=x-f*y
 | [],_,z,h=>by simp [cmb]at h
 | _::_,[],z,h=>by simp [cmb]at h
 | x::r,y::t,z,h=>by
  simp only[cmb,List.zipWith_cons_cons,List.mem_cons]at h;rcases h with rfl|h
  ·exact ⟨x,by simp,y,by simp,rfl⟩
  ·obtain ⟨a,ha,b,ji,e⟩:=vE h
   exact ⟨a,by simp [ha],b,by simp [ji],e⟩
theorem lT (f:Rat) : ∀ (r t X:List Rat),r.length=t.length->CI (cmb f r t) X=CI r X-f*CI t X
 | [],[],X,_=>by
  show CI [] X=_;simp only[CI];grind
 | x::r,y::t,[],_=>by
  simp only[cmb,List.zipWith_cons_cons,CI];grind
 | x::r,y::t,z::X,h=>by
  have ih:=lT f r t X (by simpa using h);simp only[cmb]at ih;simp only[cmb,List.zipWith_cons_cons,CI,ih];grind
theorem vD {f:Rat} {r t:List Rat} (h:r.length=t.length) (j:Nat):(cmb f r t).getD j 0=r.getD j 0-f*t.getD j 0:=by
 rw[List.getD_eq_getElem?_getD,List.getD_eq_getElem?_getD,List.getD_eq_getElem?_getD];cases hx:r[j]? with
 | none =>
  have h1:=List.getElem?_eq_none_iff.1 hx;rw[List.getElem?_eq_none (by rw[lU h];exact h1),List.getElem?_eq_none (l:=t) (by omega)];show (0:Rat)=0-f*0;grind
 | some x =>
  have h1:=(zS hx).1;obtain ⟨y,hy⟩ : ∃ y,t[j]? = some y:=⟨_,zE (by omega)⟩;rw[vC hx hy,hy];rfl
theorem wI (l:List Rat) (p:Rat) (j:Nat):(l.map (· / p)).getD j 0=l.getD j 0/p:=by
 rw[List.getD_eq_getElem?_getD,List.getD_eq_getElem?_getD,List.getElem?_map];cases l[j]? with
 | none=>show (0:Rat)=0/p;rw[Rat.div_def,Rat.zero_mul]
 | some x=>rfl
theorem mI (p:Rat) : ∀ (r X:List Rat),CI (r.map (· / p)) X=CI r X/p
 | [],X=>by
  show CI [] X=CI [] X/p;simp only[CI,Rat.div_def];grind
 | x::r,[]=>by simp only[List.map_cons,CI,Rat.div_def];grind
 | x::r,z::X=>by
  have ih:=mI p r X;simp only[Rat.div_def]at ih;simp only[List.map_cons,CI,ih,Rat.div_def];grind
theorem cG {n i:Nat} {v:List Rat} (hv:v.length=n) (hi:i<n):CI (FP n i) v=v.getD i 0:=by
 have e:=congrArg (λ l=>l.getD i 0) (X8 hv);simp only[CO,FJ,List.map_map]at e;rw[WF,if_pos hi]at e;exact e
def oL (T:List (List Rat)) (v:List Rat):List Rat:=v++(CO T v).map (-1 * ·)
structure H9 (T:List (List Rat)) (n:Nat) (m:List (List Rat)) (k c:Nat):Prop where
 len:m.length=n
 wid : ∀ r∈m,r.length=n+n
 ker : ∀ v:List Rat,v.length=n->HX m (oL T v)
 kr : ∀ w:List Rat,HX m w->HX (d5 T (FJ n)) w
 le:k<=c
 cn:c<=n
 ech:k=c -> ∀ (i:Nat) (r:List Rat),m[i]? = some r -> ∀ j,j<c->r.getD j 0=if i=j then 1 else 0
 sk:k<c -> ¬ NS n T
theorem H9.start {T:List (List Rat)} {n:Nat} (hT:Sq n T):H9 T n (d5 T (FJ n)) 0 0:=by
 have hat : ∀ (i:Nat) (r:List Rat),(d5 T (FJ n))[i]? = some r -> ∃ t,T[i]? = some t/\i<n/\r=t++FP n i:=λ i r h=>by
  rw[d5,List.getElem?_zipWith]at h;cases ht:T[i]? with
  | none=>rw[ht]at h;cases h
  | some t =>
   have h1:=(zS ht).1;rw[hT.l]at h1;rw[ht,FJ,List.getElem?_map,List.getElem?_range h1]at h;exact ⟨t,rfl,h1,(Option.some.inj h).symm⟩
 refine ⟨?_,?_,?_,λ_ h=>h,Nat.le_refl _,Nat.zero_le _,λ_ _ _ _ j h=>absurd h (by omega),λ h=>absurd h (by omega)⟩
 ·rw[d5,List.length_zipWith,hT.l];simp [FJ]
 ·intro r hr
  obtain ⟨i,hi⟩:=List.getElem?_of_mem hr;obtain ⟨t,h1,_,rfl⟩:=hat i r hi;rw[List.length_append,hT.at h1,TJ]
 ·intro v hv r hr
  obtain ⟨i,hi⟩:=List.getElem?_of_mem hr;obtain ⟨t,h1,h2,rfl⟩:=hat i r hi;rw[oL,U1 _ _ _ _ (by rw[hT.at h1,hv]),JA (FP n i),cD,JA _ (FP n i),cG (by rw[LA];exact hT.l) h2];rw[CO,List.getD_eq_getElem?_getD,List.getElem?_map,h1];show CI t v + -1*CI t v=0;grind
theorem H9.ns {T:List (List Rat)} {n c:Nat} {m:List (List Rat)} (h:H9 T n m c c) (hT:Sq n T) (hc:c<n) (hz : ∀ (q:Nat) (r:List Rat),c<=q->m[q]? = some r->r.getD c 0=0) : ¬ NS n T:=by
 intro hns;have hml:=h.len;have hxl:((m.take c).map λ r => -1*r.getD c 0).length=c:=by rw[List.length_map,List.length_take];omega
 have Hl : ∀ (i:Nat) (r:List Rat),i<c->m[i]? = some r->((m.take c).map λ r => -1*r.getD c 0).getD i 0 = -1*r.getD c 0:=λ i r hi hr=>by
  rw[List.getD_eq_getElem?_getD,List.getElem?_map,List.getElem?_take,if_pos hi,hr];rfl
 generalize ((m.take c).map λ r => -1*r.getD c 0)=x at *;have hvl:(x++1::List.replicate (n-c-1) (0:Rat)).length=n:=by simp [hxl];omega
 have hK:HX m ((x++1::List.replicate (n-c-1) (0:Rat))++List.replicate n 0):=by
  intro r hr;obtain ⟨i,hi⟩:=List.getElem?_of_mem hr;have hil:=(zS hi).1;have hrl:=h.wid r hr;have e1:r=(r.take c++r.getD c 0::(r.drop (c+1)).take (n-c-1))++r.drop n:=by
   have e3:r.take n=r.take c++r.getD c 0::(r.drop (c+1)).take (n-c-1):=by
    have e4:(r.drop c).take (n-c)=r.getD c 0::(r.drop (c+1)).take (n-c-1):=by
     rw[List.drop_eq_getElem_cons (show c<r.length by omega),show n-c=(n-c-1)+1 by omega,List.take_succ_cons,List.getD_eq_getElem?_getD,zE (by omega)];simp
    rw[<-e4,<-List.take_add,show c+(n-c)=n by omega]
   rw[<-e3,List.take_append_drop]
  rw[e1,U1 _ _ _ _ (by simp [hxl];omega),cF,U1 _ _ _ _ (by rw[List.length_take,hxl];omega),CI,cF];by_cases Qd:i<c
  ·have e2:r.take c=FP c i:=by
    refine List.ext_getElem? λ j => ?_
    by_cases hj:j<c
    ·obtain ⟨y,hy⟩ : ∃ y,r[j]? = some y:=⟨_,zE (by omega)⟩
     have h3:=h.ech rfl i r hi j hj;rw[List.getD_eq_getElem?_getD,hy]at h3;rw[List.getElem?_take,if_pos hj,hy,FP,List.getElem?_map,List.getElem?_range hj];show some y=some (if (j:Int)=(i:Int) then (1:Rat) else 0);rw[show y=(if i=j then 1 else 0:Rat) from h3];by_cases h5:i=j
     ·rw[if_pos h5,if_pos (by omega)]
     ·rw[if_neg h5,if_neg (by omega)]
    ·rw[List.getElem?_eq_none (by rw[List.length_take];omega),List.getElem?_eq_none (by rw[TJ];omega)]
   rw[e2,cG hxl Qd,Hl i r Qd hi];grind
  ·have e2:r.take c=List.replicate c 0:=by
    refine List.ext_getElem? λ j => ?_
    by_cases hj:j<c
    ·obtain ⟨y,hy⟩ : ∃ y,r[j]? = some y:=⟨_,zE (by omega)⟩
     have h3:=h.ech rfl i r hi j hj;rw[List.getD_eq_getElem?_getD,hy,if_neg (by omega)]at h3;rw[List.getElem?_take,if_pos hj,hy,List.getElem?_replicate,if_pos hj];exact congrArg some h3
    ·rw[List.getElem?_eq_none (by rw[List.length_take];omega),List.getElem?_eq_none (by simp;omega)]
   rw[e2,ZT,hz i r (by omega) hi];grind
 have hK0:=h.kr _ hK;have hKT:HX T (x++1::List.replicate (n-c-1) (0:Rat)):=by
  intro t ht;obtain ⟨i,hi⟩:=List.getElem?_of_mem ht;have hil:=(zS hi).1;rw[hT.l]at hil;have h1:=hK0 (t++FP n i) (zM (i:=i) (by
   rw[d5,List.getElem?_zipWith,hi,FJ,List.getElem?_map,List.getElem?_range hil];rfl))
  rw[U1 _ _ _ _ (by rw[hT.at hi,hvl]),cF,Rat.add_zero]at h1;exact h1
 have h1:=hns _ hvl hKT c;rw[List.getD_eq_getElem?_getD,List.getElem?_append_right (by omega),hxl,Nat.sub_self]at h1;exact absurd (show (1:Rat)=0 from h1) (by decide)
theorem H9.skip {T:List (List Rat)} {n k c:Nat} {m:List (List Rat)} (h:H9 T n m k c) (hT:Sq n T) (hc:c<n) (hz : ∀ (q:Nat) (r:List Rat),k<=q->m[q]? = some r->r.getD c 0=0):H9 T n m k (c+1):=by
 refine ⟨h.len,h.wid,h.ker,h.kr,Nat.le_succ_of_le h.le,hc,λ e=>absurd h.le (by omega),λ_ => ?_⟩;by_cases e:k<c
 ·exact h.sk e
 ·have hle:=h.le
  obtain rfl:k=c:=by omega
  exact h.ns hT hc hz
theorem H9.swap {T:List (List Rat)} {n k c i:Nat} {m:List (List Rat)} {r t:List Rat} (h:H9 T n m k c) (hi:m[i]? = some r) (hk:m[k]? = some t) (hki:k<=i):H9 T n ((m.set i t).set k r) k c:=by
 have hil:=(zS hi).1;have hkl:=(zS hk).1;have hat : ∀ (q:Nat) (x:List Rat),((m.set i t).set k r)[q]? = some x->(q=k/\x=r)\/(q≠k/\q=i/\x=t)\/(q≠k/\q≠i/\m[q]? = some x):=λ q x hx=>by
  rw[List.getElem?_set,List.getElem?_set,List.length_set]at hx;by_cases e1:k=q
  ·rw[if_pos e1,if_pos (by omega)]at hx
   exact Or.inl ⟨e1.symm,(Option.some.inj hx).symm⟩
  ·rw[if_neg e1]at hx
   by_cases e2:i=q
   ·rw[if_pos e2,if_pos (by omega)]at hx
    exact Or.inr (Or.inl ⟨Ne.symm e1,e2.symm,(Option.some.inj hx).symm⟩)
   ·rw[if_neg e2]at hx
    exact Or.inr (Or.inr ⟨Ne.symm e1,Ne.symm e2,hx⟩)
 have jl : ∀ x,x∈(m.set i t).set k r->x∈m:=λ x hx=>by
  obtain ⟨q,hq⟩:=List.getElem?_of_mem hx;rcases hat q x hq with ⟨_,rfl⟩|⟨_,_,rfl⟩|⟨_,_,h3⟩
  ·exact zM hi
  ·exact zM hk
  ·exact zM h3
 refine ⟨by rw[List.length_set,List.length_set];exact h.len,λ x hx=>h.wid x (jl x hx),λ v hv x hx=>h.ker v hv x (jl x hx),λ w hw=>h.kr w λ x hx => ?_,h.le,h.cn,?_,h.sk⟩
 ·obtain ⟨q,hq⟩:=List.getElem?_of_mem hx
  have v3:CI r w=0:=hw r (zM (i:=k) (by rw[List.getElem?_set,if_pos rfl,if_pos (by rw[List.length_set];exact hkl)]));by_cases e1:q=i
  ·subst e1
   cases hi.symm.trans hq;exact v3
  ·by_cases e2:q=k
   ·subst e2
    cases hk.symm.trans hq;exact hw t (zM (i:=i) (by rw[List.getElem?_set,if_neg (Ne.symm (Ne.symm e1)),List.getElem?_set,if_pos rfl,if_pos hil]))
   ·exact hw x (zM (i:=q) (by rw[List.getElem?_set,if_neg (Ne.symm e2),List.getElem?_set,if_neg (Ne.symm e1)];exact hq))
 intro e q x hx j hj;rcases hat q x hx with ⟨e1,rfl⟩|⟨_,e2,rfl⟩|⟨_,_,h3⟩
 ·rw[if_neg (by omega),h.ech e i x hi j hj,if_neg (by omega)]
 ·rw[if_neg (by omega),h.ech e k x hk j hj,if_neg (by omega)]
 ·exact h.ech e q x h3 j hj
theorem H9.scale {T:List (List Rat)} {n k c:Nat} {m:List (List Rat)} {t:List Rat} (p:Rat) (h:H9 T n m k c) (hk:m[k]? = some t) (hp:p≠0):H9 T n (m.set k (t.map (· / p))) k c:=by
 refine ⟨by rw[List.length_set];exact h.len,?_,?_,λ w hw=>h.kr w λ x hx => ?_,h.le,h.cn,?_,h.sk⟩
 ·intro x hx
  rcases UE hx with rfl|⟨j,_,hj⟩
  ·rw[List.length_map];exact h.wid t (zM hk)
  ·exact h.wid x (zM hj)
 ·intro v hv x hx
  rcases UE hx with rfl|⟨j,_,hj⟩
  ·rw[mI,h.ker v hv t (zM hk),Rat.div_def,Rat.zero_mul]
  ·exact h.ker v hv x (zM hj)
 ·obtain ⟨q,hq⟩:=List.getElem?_of_mem hx
  have hkl:=(zS hk).1;by_cases e:q=k
  ·subst e
   cases hk.symm.trans hq;have h1:=hw (t.map (· / p)) (zM (i:=q) (by rw[List.getElem?_set,if_pos rfl,if_pos hkl]));rw[mI]at h1;have h2:CI t w=CI t w/p*p:=by rw[Rat.div_def,Rat.mul_assoc,Rat.inv_mul_cancel _ hp,Rat.mul_one]
   rw[h2,h1,Rat.zero_mul]
  ·exact hw x (zM (i:=q) (by rw[List.getElem?_set,if_neg (Ne.symm e)];exact hq))
 ·intro e q x hx j hj
  rw[List.getElem?_set]at hx;by_cases e1:k=q
  ·rw[if_pos e1]at hx
   split at hx
   ·obtain rfl:=Option.some.inj hx
    rw[wI,h.ech e k t hk j hj,if_neg (by omega),if_neg (by omega),Rat.div_def,Rat.zero_mul]
   ·cases hx
  ·rw[if_neg e1]at hx
   exact h.ech e q x hx j hj
structure N3 (T:List (List Rat)) (n K:Nat) (k c:Nat) (t:List Rat) (m:List (List Rat)) (i:Nat):Prop where
 red:H9 T n m k c
 ht:m[k]? = some t
 one:t.getD c 0=1
 dn : ∀ (q:Nat) (r:List Rat),q<i->q≠k->m[q]? = some r->r.getD c 0=0
 lo : ∀ (q:Nat) (r:List Rat),q<i->m[q]? = some r->Bs (4*K+1) r
 hi : ∀ (q:Nat) (r:List Rat),i<=q->q≠k->m[q]? = some r->Bs K r
 bt:Bs (2*K) t
theorem N3.start {T:List (List Rat)} {n K k c:Nat} {m:List (List Rat)} {t:List Rat} (h:H9 T n m k c) (hk:m[k]? = some t) (hp:t.getD c 0≠0) (hM : ∀ (q:Nat) (r:List Rat),m[q]? = some r->Bs K r):N3 T n K k c (t.map (· / t.getD c 0)) (m.set k (t.map (· / t.getD c 0))) 0:=by
 have hkl:=(zS hk).1;have htb:=hM k t hk;refine ⟨h.scale _ hk hp,by rw[List.getElem?_set,if_pos rfl,if_pos hkl],by rw[wI,Rat.div_def,Rat.mul_inv_cancel _ hp],λ q r h1=>absurd h1 (by omega),λ q r h1=>absurd h1 (by omega),λ q r _ h2 hq => ?_,λ y hy => ?_⟩
 ·rw[List.getElem?_set,if_neg (Ne.symm h2)]at hq
  exact hM q r hq
 ·obtain ⟨z,hz,rfl⟩:=List.mem_map.1 hy
  exact ((htb z hz).divL (Bs.getD htb c)).le (by omega)
theorem N3.same {T:List (List Rat)} {n K k c i:Nat} {m:List (List Rat)} {t:List Rat} (h:N3 T n K k c t m i) (hz:i≠k -> ∀ r,m[i]? = some r->r.getD c 0=0):N3 T n K k c t m (i+1):=by
 refine ⟨h.red,h.ht,h.one,λ q r h1 h2 hq => ?_,λ q r h1 hq => ?_,λ q r h1=>h.hi q r (by omega),h.bt⟩
 ·by_cases e:q=i
  ·subst e;exact hz h2 r hq
  ·exact h.dn q r (by omega) h2 hq
 ·by_cases e:q=i
  ·by_cases e2:q=k
   ·subst e2
    cases h.ht.symm.trans hq;exact λ y hy=>(h.bt y hy).le (by omega)
   ·exact λ y hy=>(h.hi q r (by omega) e2 hq y hy).le (by omega)
  ·exact h.lo q r (by omega) hq
theorem N3.step {T:List (List Rat)} {n K k c i:Nat} {m:List (List Rat)} {t r:List Rat} (h:N3 T n K k c t m i) (hi:m[i]? = some r) (hik:i≠k):N3 T n K k c t (m.set i (cmb (r.getD c 0) r t)) (i+1):=by
 have hil:=(zS hi).1;have hrl:=h.red.wid r (zM hi);have htl:=h.red.wid t (zM h.ht);have vz:r.length=t.length:=by omega
 have hat : ∀ (q:Nat) (x:List Rat),(m.set i (cmb (r.getD c 0) r t))[q]? = some x->(q=i/\x=cmb (r.getD c 0) r t)\/(q≠i/\m[q]? = some x):=λ q x hx=>by
  rw[List.getElem?_set]at hx;by_cases e:i=q
  ·rw[if_pos e,if_pos (by omega)]at hx
   exact Or.inl ⟨e.symm,(Option.some.inj hx).symm⟩
  ·rw[if_neg e]at hx
   exact Or.inr ⟨Ne.symm e,hx⟩
 refine ⟨⟨by rw[List.length_set];exact h.red.len,?_,?_,λ w hw=>h.red.kr w λ x hx => ?_,h.red.le,h.red.cn,?_,h.red.sk⟩,by rw[List.getElem?_set,if_neg hik];exact h.ht,h.one,?_,?_,?_,h.bt⟩
 ·intro x hx
  obtain ⟨q,hq⟩:=List.getElem?_of_mem hx;rcases hat q x hq with ⟨_,rfl⟩|⟨_,h2⟩
  ·rw[lU vz];exact hrl
  ·exact h.red.wid x (zM h2)
 ·intro v hv x hx
  obtain ⟨q,hq⟩:=List.getElem?_of_mem hx;rcases hat q x hq with ⟨_,rfl⟩|⟨_,h2⟩
  ·rw[lT _ _ _ _ vz,h.red.ker v hv r (zM hi),h.red.ker v hv t (zM h.ht)]
   grind
  ·exact h.red.ker v hv x (zM h2)
 ·obtain ⟨q,hq⟩:=List.getElem?_of_mem hx
  have ht0:CI t w=0:=hw t (zM (i:=k) (by rw[List.getElem?_set,if_neg hik];exact h.ht));by_cases e:q=i
  ·subst e
   cases hi.symm.trans hq;have h1:=hw _ (zM (i:=q) (by rw[List.getElem?_set,if_pos rfl,if_pos hil]));rw[lT _ _ _ _ vz,ht0]at h1;grind
  ·exact hw x (zM (i:=q) (by rw[List.getElem?_set,if_neg (Ne.symm e)];exact hq))
 ·intro e q x hx j hj
  rcases hat q x hx with ⟨e1,rfl⟩|⟨_,h2⟩
  ·rw[vD vz,h.red.ech e i r hi j hj,h.red.ech e k t h.ht j hj,e1,if_neg (show ¬ k=j by omega)]
   grind
  ·exact h.red.ech e q x h2 j hj
 ·intro q x h1 h2 hx
  rcases hat q x hx with ⟨e1,rfl⟩|⟨e1,h3⟩
  ·rw[vD vz,h.one];grind
  ·exact h.dn q x (by omega) h2 h3
 ·intro q x h1 hx
  rcases hat q x hx with ⟨e1,rfl⟩|⟨e1,h3⟩
  ·intro y hy
   obtain ⟨a,ha,b,ji,rfl⟩:=vE hy;have uj:=h.hi i r (Nat.le_refl _) hik hi;exact ((uj a ha).subL ((Bs.getD uj c).mul (h.bt b ji))).le (by omega)
  ·exact h.lo q x (by omega) h3
 ·intro q x h1 h2 hx
  rcases hat q x hx with ⟨e1,rfl⟩|⟨e1,h3⟩
  ·omega
  ·exact h.hi q x (by omega) h2 h3
theorem N3.fin {T:List (List Rat)} {n K k c:Nat} {m:List (List Rat)} {t:List Rat} (h:N3 T n K k c t m n) (hc:c<n):H9 T n m (k+1) (c+1) /\ ∀ (q:Nat) (r:List Rat),m[q]? = some r->Bs (4*K+1) r:=by
 have e9 : ∀ (q:Nat) (r:List Rat),m[q]? = some r->q<n:=λ q r hq=>by
  have:=(zS hq).1
  rw[h.red.len]at this;exact this
 refine ⟨⟨h.red.len,h.red.wid,h.red.ker,h.red.kr,Nat.succ_le_succ h.red.le,hc,λ e q r hq j hj => ?_,λ AsG=>h.red.sk (by omega)⟩,λ q r hq=>h.lo q r (e9 q r hq) hq⟩;have e2:k=c:=by omega
 by_cases e3:j=c
 ·by_cases e4:q=k
  ·subst e4
   cases h.ht.symm.trans hq;rw[e3,h.one,if_pos e2]
  ·rw[e3,h.dn q r (e9 q r hq) e4 hq,if_neg (by omega)]
 ·exact h.red.ech e2 q r hq j (by omega)
theorem H9.inv {T:List (List Rat)} {n:Nat} {m:List (List Rat)} (h:H9 T n m n n) {v:List Rat} (hv:v.length=n) (hT:T.length=n):CO (m.map (·.drop n)) (CO T v)=v:=by
 refine List.ext_getElem? λ i => ?_
 rw[CO,List.getElem?_map,List.getElem?_map];cases hi:m[i]? with
 | none =>
  have h1:=List.getElem?_eq_none_iff.1 hi;rw[List.getElem?_eq_none (l:=v) (by rw[hv,<-h.len];exact h1)];rfl
 | some r =>
  have h1:=(zS hi).1;rw[h.len]at h1;have hrl:=h.wid r (zM hi);obtain ⟨x,hx⟩ : ∃ x,v[i]? = some x:=⟨_,zE (by omega)⟩;have h2:=h.ker v hv r (zM hi);have e:r.take n=FP n i:=by
   refine List.ext_getElem? λ j => ?_
   by_cases hj:j<n
   ·obtain ⟨y,hy⟩ : ∃ y,r[j]? = some y:=⟨_,zE (by omega)⟩
    have h3:=h.ech rfl i r hi j hj;rw[List.getD_eq_getElem?_getD,hy]at h3;rw[List.getElem?_take,if_pos hj,hy,FP,List.getElem?_map,List.getElem?_range hj];show some y=some _;rw[show y=(if i=j then 1 else 0:Rat) from h3];show some (if i=j then (1:Rat) else 0)=some (if (j:Int)=(i:Int) then (1:Rat) else 0);by_cases h5:i=j
    ·rw[if_pos h5,if_pos (by omega)]
    ·rw[if_neg h5,if_neg (by omega)]
   ·rw[List.getElem?_eq_none (by rw[List.length_take];omega),List.getElem?_eq_none (by rw[TJ];omega)]
  rw[<-List.take_append_drop n r,oL,U1 _ _ _ _ (by rw[List.length_take,hv];omega),e,cG hv h1,JA (r.drop n),cD,JA _ (r.drop n),List.getD_eq_getElem?_getD,hx]at h2;rw[hx];show some (CI (r.drop n) (CO T v))=some x;have h3:x + -1*CI (r.drop n) (CO T v)=0:=h2;congr 1;grind
end Go.Eng



namespace Go.Eng
open F
attribute [local irreducible] AH BJ B1 BD EZ CF CG CR CU DW B5 DT EG F7 DM CQ DR EE AR CW BW pw DC C9 EI ET E1 E7 EW D4 E8
variable {L:Lib}
set_option maxHeartbeats 8000000
set_option maxRecDepth 8000
theorem AlB {S:GA} {n:Nat} (h:S.Ok n 80) (hn:n<=4):Bs 250000000 (OS S n)/\Bs 510000000 (OU S n):=by
 have nq:Sq n S.a:=⟨h.la,h.lr⟩;have jj:Bs 250000000 (GG S.a n n):=by
  intro x hx;simp only[GG,List.mem_cons,List.mem_map,List.mem_range]at hx;rcases hx with rfl|⟨j,hj,rfl⟩
  ·exact Bt.one _
  ·have Ff:=zJ j (by omega)
   exact (Ms.fl nq h.ba hn j (by omega)).2.2.le (by omega)
 have qf:Bs 250000000 (IK S n n):=by
  intro x hx;simp only[IK,List.mem_cons,List.mem_map,List.mem_range]at hx;rcases hx with rfl|⟨j,hj,rfl⟩
  ·exact Bt.zero _
  ·have Ff:=zJ j (by omega)
   have kv:Bs (4*(XZ j+81)) (CO (FV S.a n j) S.b):=by
    intro x hx;obtain ⟨r,hr,rfl⟩:=List.mem_map.1 hx;refine (((Ms.fl nq h.ba hn j (by omega)).1 r hr).dot h.bb).le ?_;rw[(Sq.fl h.la j).r r hr];exact Nat.mul_le_mul hn (by omega)
   refine (h.bc.dot kv).le ?_;rw[h.lc];have:=Nat.mul_le_mul_right (80+4*(XZ j+81)+1) hn;generalize hX:80+4*(XZ j+81)+1=X at this ⊢;omega
 have Gi:Bs 250000080 ((GG S.a n n).map (· * S.d)):=by
  intro y hy;obtain ⟨x,hx,rfl⟩:=List.mem_map.1 hy;exact ((jj x hx).mul h.bd).le (by omega)
 refine ⟨jj.trim,Bs.trim ?_⟩;intro z hz;obtain ⟨i,hi⟩:=List.getElem?_of_mem hz;have h1:=(zS hi).1;rw[lC]at h1;rw[kZ h1]at hi;obtain rfl:=Option.some.inj hi;exact ((N9 qf i).add (N9 Gi.trim i)).le (by omega)
theorem AlC (S:GA) (n:Nat):(OS S n).length<=n+1/\(OU S n).length<=n+1:=by
 have h1:=Y0 (GG S.a n n);have h2:=T6 (GG S.a n n) (GG S.a n n).length;have h3:=fS S.a n n;have h4:=Y0 (K5 (IK S n n) (F3 ((GG S.a n n).map (· * S.d))));have h5:=T6 (K5 (IK S n n) (F3 ((GG S.a n n).map (· * S.d)))) (K5 (IK S n n) (F3 ((GG S.a n n).map (· * S.d)))).length;have h6:=lC (IK S n n) (F3 ((GG S.a n n).map (· * S.d)));have h7:=fQ S n n;unfold OS OU;omega
end Go.Eng

namespace Go.Eng
set_option maxHeartbeats 4000000
def IH (T U:List (List Rat)) (S:GA) (n:Nat):GA:=⟨EA (EA T S.a n) U n,CO T S.b,CO (KH U) S.c,S.d⟩
theorem Ol {U:List (List Rat)} {n:Nat} (hU:Sq n U) (c:List Rat):CO (KH U) c=H1 c U n:=by
 rw[CO,KH,List.map_map,hU.l,H1];exact List.map_congr_left λ j _=>JA _ _
theorem AjN {T U:List (List Rat)} {n:Nat} (hn:n<=2) (hT:Sq n T) (hU:Sq n U) (hb:Ms 4 T) (hUT : ∀ v:List Rat,v.length=n->CO U (CO T v)=v):Ms 21 U:=by
 obtain rfl|rfl|rfl:n=0\/n=1\/n=2:=by omega
 ·have:=hU.l
  rw[List.length_eq_zero_iff]at this;subst this;intro r hr;cases hr
 ·obtain ⟨tl,tr⟩:=hT
  obtain ⟨ul,ur⟩:=hU;match T,tl with
  | [t],_ =>
   have h1:=tr t (by simp);match t,h1 with
   | [x],_ =>
    match U,ul with
    | [u],_ =>
     have h2:=ur u (by simp);match u,h2 with
     | [y],_ =>
      have h:=hUT [1] rfl;simp only[CO,List.map_cons,List.map_nil,CI,List.cons.injEq,and_true]at h;have hx:Bt 4 x:=hb [x] (by simp) x (by simp);have h0:x≠0:=λ e=>by rw[e]at h;grind
      have e:y=x⁻¹:=by grind
      intro r hr;obtain rfl:=List.mem_singleton.1 hr;intro z hz;obtain rfl:=List.mem_singleton.1 hz;rw[e];exact hx.wz.le (by omega)
 ·obtain ⟨tl,tr⟩:=hT
  obtain ⟨ul,ur⟩:=hU;match T,tl with
  | [t,s],_ =>
   have h1:=tr t (by simp);have h2:=tr s (by simp);match t,s,h1,h2 with
   | [a,b],[c,d],_,_ =>
    match U,ul with
    | [u,v],_ =>
     have h3:=ur u (by simp);have h4:=ur v (by simp);match u,v,h3,h4 with
     | [p,q],[r,s],_,_ =>
      have g1:=hUT [1,0] rfl;have g2:=hUT [0,1] rfl;simp only[CO,List.map_cons,List.map_nil,CI,List.cons.injEq,and_true]at g1 g2;obtain ⟨e1,e2⟩:=g1;obtain ⟨e3,e4⟩:=g2;have ha:Bt 4 a:=hb [a,b] (by simp) a (by simp);have hbb:Bt 4 b:=hb [a,b] (by simp) b (by simp);have hcc:Bt 4 c:=hb [c,d] (by simp) c (by simp);have hd:Bt 4 d:=hb [c,d] (by simp) d (by simp);have f1:p*a+q*c=1:=by grind
      have f2:r*a+s*c=0:=by grind
      have f3:p*b+q*d=0:=by grind
      have f4:r*b+s*d=1:=by grind
      clear e1 e2 e3 e4 hUT;have k1:p*(a*d-b*c)=d:=by grind
      have k2:q*(a*d-b*c) = -b:=by grind
      have k3:r*(a*d-b*c) = -c:=by grind
      have k4:s*(a*d-b*c)=a:=by grind
      have hD:Bt 17 (a*d-b*c):=(ha.mul hd).subL (hbb.mul hcc);have h0:a*d-b*c≠0:=λ e=>by
       rw[e,Rat.mul_zero]at k1 k2 k3 k4;have:a=0:=k4.symm;have:c=0:=by grind
       grind
      have key : ∀ x y:Rat,x*(a*d-b*c)=y->x=y/(a*d-b*c):=λ x y h=>by
       rw[<-h,Rat.div_def,Rat.mul_assoc,Rat.mul_inv_cancel _ h0,Rat.mul_one]
      intro w hw;simp only[List.mem_cons,List.not_mem_nil,or_false]at hw;rcases hw with rfl|rfl
      ·intro z hz
       simp only[List.mem_cons,List.not_mem_nil,or_false]at hz;rcases hz with rfl|rfl
       ·rw[key _ _ k1];exact hd.divL hD
       ·rw[key _ _ k2];exact (Bt.negL hbb).divL hD
      ·intro z hz
       simp only[List.mem_cons,List.not_mem_nil,or_false]at hz;rcases hz with rfl|rfl
       ·rw[key _ _ k3];exact (Bt.negL hcc).divL hD
       ·rw[key _ _ k4];exact ha.divL hD
theorem Oj {U:List (List Rat)} {k:Nat} (h:Ms k U):Ms k (KH U):=λ r hr=>by
 obtain ⟨i,_,rfl⟩:=List.mem_map.1 hr;exact h.Bi i
theorem Om {U:List (List Rat)} {n:Nat} (h:Sq n U):Sq n (KH U):=⟨by rw[rV,h.l],λ r hr=>by
 obtain ⟨i,_,rfl⟩:=List.mem_map.1 hr;rw[bZ,h.l]⟩
theorem Nc (f g:Nat->Rat) : ∀ n,EV (λ i=>f i+g i) n=EV f n+EV g n
 | 0=>by simp only[EV];grind
 | n+1=>by
  have:=Nc f g n
  simp only[EV]at this ⊢;rw[this];grind
theorem Ma (f:Nat->Nat->Rat) (m:Nat) : ∀ n,EV (λ i=>EV (λ j=>f i j) m) n=EV (λ j=>EV (λ i=>f i j) n) m
 | 0=>by
  rw[EV];exact (YX m λ j _=>rfl).symm
 | n+1=>by
  have e:(λ j=>EV (λ i=>f i j) (n+1))=λ j=>EV (λ i=>f i j) n+f n j:=rfl
  rw[e,Nc,<-Ma f m n];rfl
theorem rT (m:List (List Rat)) : ∀ i,L1 m i=EV (λ r=>(m.getD r []).getD r 0) i
 | 0=>rfl
 | i+1=>by rw[L1,rT m i];rfl
theorem oA {m:List (List Rat)} {i:Nat} {r:List Rat} (h:m[i]? = some r):m.getD i []=r:=by
 rw[List.getD_eq_getElem?_getD,h];rfl
theorem Hx {A B:List (List Rat)} {n i j:Nat} (hA:Sq n A) (hB:Sq n B) (hi:i<n) (hj:j<n):((EA A B n).getD i []).getD j 0=EV (λ k=>(A.getD i []).getD k 0*(B.getD k []).getD j 0) n:=by
 obtain ⟨r,hr⟩ : ∃ r,A[i]? = some r:=⟨_,zE (by rw[hA.l];exact hi)⟩;have h1:(EA A B n)[i]? = some (H1 r B n):=by rw[EA,List.getElem?_map,hr];rfl
 rw[oA h1,oA hr,List.getD_eq_getElem?_getD,H1,List.getElem?_map,List.getElem?_range hj];show CI r (ED B j)=_;rw[U2 r (ED B j) n (by rw[hA.at hr];exact Nat.le_refl _)];refine WX n λ k hk => ?_
 obtain ⟨s,hs⟩ : ∃ s,B[k]? = some s:=⟨_,zE (by rw[hB.l];exact hk)⟩;rw[oA hs,List.getD_eq_getElem?_getD (l:=ED B j),ED,List.getElem?_map,hs];rfl
theorem AlK {A B:List (List Rat)} {n:Nat} (hA:Sq n A) (hB:Sq n B):L1 (EA A B n) n=L1 (EA B A n) n:=by
 rw[rT,rT,WX n (λ i hi=>Hx hA hB hi hi),WX n (λ i hi=>Hx hB hA hi hi),Ma];exact WX n λ i _=>WX n λ j _=>Rat.mul_comm _ _
theorem oT {A B:List (List Rat)} {n:Nat} (hA:Sq n A) (hB:Sq n B) (h : ∀ v:List Rat,v.length=n->CO A v=CO B v):A=B:=by
 refine List.ext_getElem? λ i => ?_
 by_cases hi:i<n
 ·obtain ⟨r,hr⟩ : ∃ r,A[i]? = some r:=⟨_,zE (by rw[hA.l];exact hi)⟩
  obtain ⟨s,hs⟩ : ∃ s,B[i]? = some s:=⟨_,zE (by rw[hB.l];exact hi)⟩;rw[hr,hs];have hrl:=hA.at hr;have hsl:=hB.at hs;congr 1;refine List.ext_getElem? λ j => ?_
  by_cases hj:j<n
  ·have e:=congrArg (λ l:List Rat=>l[i]?) (h (FP n j) (TJ _ _))
   simp only[CO,List.getElem?_map,hr,hs,Option.map_some,Option.some.injEq]at e;rw[JA,cG hrl hj,JA,cG hsl hj]at e;rw[zE (by omega),zE (by omega)];rw[List.getD_eq_getElem?_getD,List.getD_eq_getElem?_getD,zE (by omega),zE (by omega)]at e;exact congrArg some e
  ·rw[List.getElem?_eq_none (by omega),List.getElem?_eq_none (by omega)]
 ·rw[List.getElem?_eq_none (by rw[hA.l];omega),List.getElem?_eq_none (by rw[hB.l];omega)]
theorem AlL {X Y T U:List (List Rat)} {n:Nat} (hX:Sq n X) (hY:Sq n Y) (hT:Sq n T) (hU:Sq n U) (hUT : ∀ v:List Rat,v.length=n->CO U (CO T v)=v) (hTU : ∀ v:List Rat,v.length=n->CO T (CO U v)=v) (h : ∀ v:List Rat,v.length=n->CO Y (CO T v)=CO T (CO X v)):L1 Y n=L1 X n:=by
 have e1:Y=EA T (EA X U n) n:=oT hY (Sq.mul hT.l _) λ v hv=>by
  have hl:(CO U v).length=n:=by rw[LA,hU.l]
  rw[MH _ _ _ (Sq.mul hX.l U).r,MH _ _ _ hU.r,<-h _ hl,hTU v hv]
 have e2:EA (EA X U n) T n=X:=oT (Sq.mul (Sq.mul hX.l U).l _) hX λ v hv=>by
  rw[MH _ _ _ hT.r,MH _ _ _ hU.r,hUT v hv]
 rw[e1,AlK hT (Sq.mul hX.l U),e2]
theorem vH {A B T U:List (List Rat)} {n:Nat} (hA:Sq n A) (hB:Sq n B) (hT:Sq n T) (hU:Sq n U) (hUT : ∀ v:List Rat,v.length=n->CO U (CO T v)=v) (hTU : ∀ v:List Rat,v.length=n->CO T (CO U v)=v) (h : ∀ v:List Rat,v.length=n->CO B (CO T v)=CO T (CO A v)) (k:Nat) (h1 : ∀ v:List Rat,v.length=n->CO (FV B n k) (CO T v)=CO T (CO (FV A n k) v)):MB B n k=MB A n k:=by
 rw[MB,MB,ZP,ZP,AlL (Sq.mul hA.l (FV A n k)) (Sq.mul hB.l (FV B n k)) hT hU hUT hTU λ v hv => ?_];have hl2:(CO (FV A n k) v).length=n:=by rw[LA,(Sq.fl hA.l k).l]
 rw[MH _ _ _ (Sq.fl hB.l k).r,MH _ _ _ (Sq.fl hA.l k).r,h1 v hv,h _ hl2]
theorem tN {α:Type} (f g:α->Rat) : ∀ l:List α,N4 (l.map f) (l.map g)=l.map λ e=>f e+g e
 | []=>rfl
 | e::l=>by
  have:=tN f g l
  simp only[N4]at this;simp only[List.map_cons,N4,List.zipWith_cons_cons,this]
theorem Akq {n:Nat} {m:List (List Rat)} (a b:List Rat) (c:Rat) (ha:a.length=n) (hb:b.length=n):N4 (CO m a) ((CO m b).map (c * ·))=CO m (N4 a (b.map (c * ·))):=by
 rw[CO,CO,CO,List.map_map,tN];refine List.map_congr_left λ r _ => ?_
 rw[mK (by rw[List.length_map,ha,hb]),JA r (b.map _),cD,JA b r];rfl
theorem zL {A B T U:List (List Rat)} {n:Nat} (hA:Sq n A) (hB:Sq n B) (hT:Sq n T) (hU:Sq n U) (hUT : ∀ v:List Rat,v.length=n->CO U (CO T v)=v) (hTU : ∀ v:List Rat,v.length=n->CO T (CO U v)=v) (h : ∀ v:List Rat,v.length=n->CO B (CO T v)=CO T (CO A v)) :
  ∀ k,(∀ v:List Rat,v.length=n->CO (FV B n k) (CO T v)=CO T (CO (FV A n k) v))/\MB B n k=MB A n k
 | 0=>by
  have h1 : ∀ v:List Rat,v.length=n->CO (FV B n 0) (CO T v)=CO T (CO (FV A n 0) v):=λ v hv=>by
   rw[FV,FV,X8 hv,X8 (by rw[LA,hT.l])]
  exact ⟨h1,vH hA hB hT hU hUT hTU h 0 h1⟩
 | k+1=>by
  obtain ⟨h1,h2⟩:=zL hA hB hT hU hUT hTU h k;have h3 : ∀ v:List Rat,v.length=n->CO (FV B n (k+1)) (CO T v)=CO T (CO (FV A n (k+1)) v):=λ v hv=>by
   have hl:(CO T v).length=n:=by rw[LA,hT.l]
   have hl2:(CO (FV A n k) v).length=n:=by rw[LA,(Sq.fl hA.l k).l]
   have hc:ZP (EA B (FV B n k) n) n (k+1)=ZP (EA A (FV A n k) n) n (k+1):=h2;rw[FV,FV,Hy (Sq.mul hB.l _) _ _ hl,Hy (Sq.mul hA.l _) _ _ hv,MH _ _ _ (Sq.fl hB.l k).r,MH _ _ _ (Sq.fl hA.l k).r,h1 v hv,h _ hl2,hc];exact Akq (n:=n) _ _ _ (by rw[LA,hA.l]) hv
  exact ⟨h3,vH hA hB hT hU hUT hTU h (k+1) h3⟩
theorem AlD {T U:List (List Rat)} {S:GA} {n k:Nat} (hS:S.Ok n k) (hT:Sq n T) (hU:Sq n U) (hUT : ∀ v:List Rat,v.length=n->CO U (CO T v)=v) (hTU : ∀ v:List Rat,v.length=n->CO T (CO U v)=v):OS (IH T U S n) n=OS S n/\OU (IH T U S n) n=OU S n:=by
 have hA:Sq n S.a:=⟨hS.la,hS.lr⟩;have hB:Sq n (IH T U S n).a:=Sq.mul (Sq.mul hT.l S.a).l U;have h : ∀ v:List Rat,v.length=n->CO (IH T U S n).a (CO T v)=CO T (CO S.a v):=λ v hv=>by
  show CO (EA (EA T S.a n) U n) (CO T v)=_;rw[MH _ _ _ hU.r,hUT v hv,MH _ _ _ hS.lr]
 have key:=zL hA hB hT hU hUT hTU h;have e1:GG (IH T U S n).a n n=GG S.a n n:=by
  rw[GG,GG];exact congrArg _ (List.map_congr_left λ j _=>(key j).2)
 have e2:IK (IH T U S n) n n=IK S n n:=by
  rw[IK,IK];refine congrArg _ (List.map_congr_left λ j _ => ?_);show CI (CO (KH U) S.c) (CO (FV (IH T U S n).a n j) (CO T S.b))=_;rw[(key j).1 _ hS.lb,Ol hU,mL U S.c hU.r,hUT _ (by rw[LA,(Sq.fl hA.l j).l])]
 exact ⟨by rw[OS,OS,e1],by rw[OU,OU,e1,e2];rfl⟩
theorem qB {a b c d e f g h i p q r x y z:Rat} (e1:p*a+q*d+r*g=x) (e2:p*b+q*e+r*h=y) (e3:p*c+q*f+r*i=z) :
  p*(a*(e*i-f*h)-b*(d*i-f*g)+c*(d*h-e*g))=x*(e*i-f*h)+y*(f*g-d*i)+z*(d*h-e*g) /\
  q*(a*(e*i-f*h)-b*(d*i-f*g)+c*(d*h-e*g))=x*(c*h-b*i)+y*(a*i-c*g)+z*(b*g-a*h) /\
  r*(a*(e*i-f*h)-b*(d*i-f*g)+c*(d*h-e*g))=x*(b*f-c*e)+y*(c*d-a*f)+z*(a*e-b*d):=by
 subst e1 e2 e3;refine ⟨by grind,by grind,by grind⟩
theorem Vx (a b c d e f g h i p q r s t u v w x:Rat) :
  (p*a+q*d+r*g)*((s*b+t*e+u*h)*(v*c+w*f+x*i)-(s*c+t*f+u*i)*(v*b+w*e+x*h))-(p*b+q*e+r*h)*((s*a+t*d+u*g)*(v*c+w*f+x*i)-(s*c+t*f+u*i)*(v*a+w*d+x*g))+(p*c+q*f+r*i)*((s*a+t*d+u*g)*(v*b+w*e+x*h)-(s*b+t*e+u*h)*(v*a+w*d+x*g))
  = (p*(t*x-u*w)-q*(s*x-u*v)+r*(s*w-t*v))*(a*(e*i-f*h)-b*(d*i-f*g)+c*(d*h-e*g)):=by grind
theorem AjO {T U:List (List Rat)} (hT:Sq 3 T) (hU:Sq 3 U) (hb:Ms 4 T) (hUT : ∀ v:List Rat,v.length=3->CO U (CO T v)=v):Ms 82 U:=by
 obtain ⟨tl,tr⟩:=hT;obtain ⟨ul,ur⟩:=hU;match T,tl with
 | [t1,t2,t3],_ =>
  have l1:=tr t1 (by simp);have l2:=tr t2 (by simp);have l3:=tr t3 (by simp);match t1,t2,t3,l1,l2,l3 with
  | [a,b,c],[d,e,f],[g,h,i],_,_,_ =>
   match U,ul with
   | [u1,u2,u3],_ =>
    have m1:=ur u1 (by simp);have m2:=ur u2 (by simp);have m3:=ur u3 (by simp);match u1,u2,u3,m1,m2,m3 with
    | [p,q,r],[s,t,u],[v,w,x],_,_,_ =>
     have g1:=hUT [1,0,0] rfl;have g2:=hUT [0,1,0] rfl;have g3:=hUT [0,0,1] rfl;simp only[CO,List.map_cons,List.map_nil,CI,List.cons.injEq,and_true]at g1 g2 g3;obtain ⟨a1,a2,a3⟩:=g1;obtain ⟨b1,b2,b3⟩:=g2;obtain ⟨c1,c2,c3⟩:=g3;have ha:Bt 4 a:=hb [a,b,c] (by simp) a (by simp);have hbb:Bt 4 b:=hb [a,b,c] (by simp) b (by simp);have hcc:Bt 4 c:=hb [a,b,c] (by simp) c (by simp);have hd:Bt 4 d:=hb [d,e,f] (by simp) d (by simp);have nc:Bt 4 e:=hb [d,e,f] (by simp) e (by simp);have og:Bt 4 f:=hb [d,e,f] (by simp) f (by simp);have hg:Bt 4 g:=hb [g,h,i] (by simp) g (by simp);have hh:Bt 4 h:=hb [g,h,i] (by simp) h (by simp);have hi:Bt 4 i:=hb [g,h,i] (by simp) i (by simp);have p1:p*a+q*d+r*g=1:=by grind
     have p2:p*b+q*e+r*h=0:=by grind
     have p3:p*c+q*f+r*i=0:=by grind
     have q1:s*a+t*d+u*g=0:=by grind
     have q2:s*b+t*e+u*h=1:=by grind
     have q3:s*c+t*f+u*i=0:=by grind
     have r1:v*a+w*d+x*g=0:=by grind
     have r2:v*b+w*e+x*h=0:=by grind
     have r3:v*c+w*f+x*i=1:=by grind
     clear a1 a2 a3 b1 b2 b3 c1 c2 c3 hUT;have Ft:=Vx a b c d e f g h i p q r s t u v w x;rw[p1,p2,p3,q1,q2,q3,r1,r2,r3]at Ft;obtain ⟨j1,j2,j3⟩:=qB p1 p2 p3;obtain ⟨j4,j5,j6⟩:=qB q1 q2 q3;obtain ⟨j7,j8,j9⟩:=qB r1 r2 r3;have mn : ∀ {x1 x2 x3 x4:Rat},Bt 4 x1->Bt 4 x2->Bt 4 x3->Bt 4 x4->Bt 17 (x1*x2-x3*x4):=λ h1 h2 h3 h4=>(h1.mul h2).subL (h3.mul h4)
     have hD:Bt 65 (a*(e*i-f*h)-b*(d*i-f*g)+c*(d*h-e*g)):=((ha.mul (mn nc hi og hh)).subL (hbb.mul (mn hd hi og hg))).add (hcc.mul (mn hd hh nc hg));generalize a*(e*i-f*h)-b*(d*i-f*g)+c*(d*h-e*g)=D at *;have h0:D≠0:=λ e0=>by
      rw[e0,Rat.mul_zero]at Ft;grind
     have key : ∀ {x m:Rat},x*D=m->Bt 17 m->Bt 82 x:=λ{x m} h1 h2=>by
      have e:x=m/D:=by rw[<-h1,Rat.div_def,Rat.mul_assoc,Rat.mul_inv_cancel _ h0,Rat.mul_one]
      rw[e];exact h2.divL hD
     clear p1 p2 p3 q1 q2 q3 r1 r2 r3 Ft;simp only[Rat.one_mul,Rat.zero_mul,Rat.add_zero,Rat.zero_add]at j1 j2 j3 j4 j5 j6 j7 j8 j9;have k1:=key j1 (mn nc hi og hh);have k2:=key j2 (mn hcc hh hbb hi);have k3:=key j3 (mn hbb og hcc nc);have k4:=key j4 (mn og hg hd hi);have k5:=key j5 (mn ha hi hcc hg);have k6:=key j6 (mn hcc hd ha og);have k7:=key j7 (mn hd hh nc hg);have k8:=key j8 (mn hbb hg ha hh);have k9:=key j9 (mn ha nc hbb hd);intro y hy;simp only[List.mem_cons,List.not_mem_nil,or_false]at hy;rcases hy with rfl|rfl|rfl
     all_goals
      intro z hz;simp only[List.mem_cons,List.not_mem_nil,or_false]at hz;rcases hz with rfl|rfl|rfl
      all_goals assumption
theorem oJ {T U:List (List Rat)} {n:Nat} (hn:n<=3) (hT:Sq n T) (hU:Sq n U) (hb:Ms 4 T) (hUT : ∀ v:List Rat,v.length=n->CO U (CO T v)=v):Ms 82 U:=by
 by_cases h:n=3
 ·subst h;exact AjO hT hU hb hUT
 ·exact (AjN (by omega) hT hU hb hUT).le (by omega)
theorem Ib {m:List (List Rat)} {b:List Rat} {n k l:Nat} (hs:Sq n m) (hm:Ms k m) (hb:Bs l b) (hn:n<=3):Bs (3*(k+l+1)) (CO m b):=λ x hx=>by
 obtain ⟨r,hr,rfl⟩:=List.mem_map.1 hx;refine ((hm r hr).dot hb).le ?_;rw[hs.r r hr];exact Nat.mul_le_mul_right _ hn
theorem qN {T U:List (List Rat)} {S:GA} {n:Nat} (hS:S.Ok n 4) (hT:Sq n T) (hU:Sq n U) (hb:Ms 4 T) (hUb:Ms 82 U) (hn:n<=3):(IH T U S n).Ok n 400/\Ms 27 (EA T S.a n):=by
 have h1:Ms 27 (EA T S.a n):=(Ms.mul hb hT hS.ba).le (by omega);have s1:Sq n (EA T S.a n):=Sq.mul hT.l _;have s2:Sq n (IH T U S n).a:=Sq.mul s1.l _;refine ⟨⟨s2.l,s2.r,by show (CO T S.b).length=n;rw[LA,hT.l],by show (CO (KH U) S.c).length=n;rw[LA,rV,hU.l],?_,?_,?_,hS.bd.le (by omega)⟩,h1⟩
 ·exact (Ms.mul h1 s1 hUb).le (show n*(27+82+1)<=400 by omega)
 ·exact (Ib hT hb hS.bb hn).le (by omega)
 ·exact (Ib (Om hU) (Oj hUb) hS.bc hn).le (by omega)
theorem AjS {T U V:List (List Rat)} {n:Nat} (hT:Sq n T) (hU:Sq n U) (hV:Sq n V) (hUT : ∀ v:List Rat,v.length=n->CO U (CO T v)=v) (hTV : ∀ v:List Rat,v.length=n->CO T (CO V v)=v):U=V:=oT hU hV λ v hv=>by
 have h1:=hUT (CO V v) (by rw[LA,hV.l]);rw[hTV v hv]at h1;exact h1
end Go.Eng

namespace Go.Eng
open F
attribute [local irreducible] AH BJ B1 BD EZ CF CG CR CU DW B5 DT EG F7 DM CQ DR EE AR CW BW pw DC C9 EI ET E1 E7 EW D4 E8
variable {L:Lib}
set_option maxHeartbeats 16000000
def mQ:Option (List Rat)->List AV
 | none=>[.nil]
 | some r=>[.sl false (r.map eQ)]
def VI (y:Nat->List Rat) (n w:Nat):List (List Rat):=(List.range n).map λ i:Nat=>(List.range w).map λ c=>(y c).getD i 0
theorem AiI {n:Nat} {l:List (List Rat)} (h:l.length=n):(fz none (l.map some) n).map mQ=eM l:=by
 rw[iF (by simpa using h),List.map_map];rfl
theorem Mq {m0 m:List (List Rat)} {K n W c:Nat} {P:List Nat} {odd:Bool} {l:Rat} (hE:HQ m0 K W n m P c odd l) (hP:P.length=n) (hml:m.length=n):ZK (UU m) n:=by
 have hc:c=n:=by have:=hE.ech.le;have:=hE.cc;omega
 subst hc;exact hE.ech.tri λ i hi=>by
  obtain ⟨q,hq⟩ : ∃ q,P[i]? = some q:=⟨_,zE (by omega)⟩;rw[hq,hE.ech.diag hP i q hq]
theorem Alj {m0 m a b:List (List Rat)} {K n w c:Nat} {P:List Nat} {odd:Bool} {l:Rat} (hE:HQ m0 K (n+w) n m P c odd l) (hs:bI m0 (d5 a b)) (hl:a.length=b.length) (haw : ∀ r∈a,r.length=n) (hbw : ∀ r∈b,r.length=w) (hP:P.length=n) (hml:m.length=n) :
  ∀ c',c'<w -> ∀ (i:Nat) (r s:List Rat),a[i]? = some r->b[i]? = some s->CI r ((HK (n+c') l m 0).map (· / l))=s.getD c' 0:=by
 intro c' hc' i r s hr hs';have ht:=Mq hE hP hml;have hlen:=hE.ech.lr;refine Wp (λ X=>(hE.ker X).trans (hs.ker X)) hl haw hbw hc' (by rw[List.length_map,UW];exact hml) hlen (λ x hx => ?_) hr hs';have h1:=Xx (c:=n+c') (l:=l) (λ r hr=>by rw[hlen r hr];omega) hml ht x hx;have hyl:((HK (n+c') l m 0).map (· * l⁻¹)).length=n:=by rw[List.length_map,UW];exact hml
 rw[show ((HK (n+c') l m 0).map (· / l))=(HK (n+c') l m 0).map (· * l⁻¹) from List.map_congr_left λ z _=>Rat.div_def z l,JA,<-XQ hyl,List.take_take,Nat.min_self,XQ hyl,ZR,JA,h1,Rat.mul_assoc,Rat.mul_inv_cancel _ hE.l0,Rat.mul_one]
theorem All (N:MatGLib L) (q q1 q2 q3:Bool) (a0 b0:List (List Rat)) (a:List (List Rat)) (n WW k:Nat) {K:Nat} (hal:a.length=n) (haw : ∀ r∈a,r.length=WW) (hn:1<=n/\n<=52) (hW:WW<=104) (hab:Ms k a) (hsb0 : ∀ r∈a,∀ j,Bt K (C6 (r.take j))) (hkK:k<=K) (hKB:K<=1000000000000) {kk:List It} {Q:Tm->Mem->Prop}
  (hfin:AH L kk ([(5,.row 231019 0 3 0 n),(4,.row 231016 0 1 0 n)]++[(1000+43,.row 22 0 1 0 n),(1000+26,.bool false),(1000+25,.int .i64 n),(1000+24,.int .i64 n),(1000+7,.row 22 0 1 0 n),(1000+6,.int .i64 n),(1000+0,.sl q (FE q1 a0)),(1000+(0+1),.sl q2 (FE q3 b0))]) ([(231016,231016,.mx (C1 3 eQ (whole a))),(231019,231019,.rw 3 ((a.map C6).map eQ))]++[(22,22,.rw 1 (eM a))]) Q) :
  AH L (.lp KC.l1 :: .blk 0::kk) ([(22,.int .i64 0),(21,.int .i64 n),(20,.row 22 0 1 0 n),(5,.row 231019 0 3 0 n),(4,.row 231016 0 1 0 n)]++[(1000+43,.row 22 0 1 0 n),(1000+26,.bool false),(1000+25,.int .i64 n),(1000+24,.int .i64 n),(1000+7,.row 22 0 1 0 n),(1000+6,.int .i64 n),(1000+0,.sl q (FE q1 a0)),(1000+(0+1),.sl q2 (FE q3 b0))]) ([(231016,231016,.mx (List.replicate n none)),(231019,231019,.rw 3 ((List.replicate n none).map eO))]++[(22,22,.rw 1 (eM a))]) Q:=by
 have hI:=LN N.toRatGLib 1 (by omega);refine VV (l:=[_,_]) rfl ?_;refine DG (λ i=>n-i) (λ(i:Nat)=>i<=n) (λ i=>[(22,.int .i64 i)]) (λ i=>[(231016,231016,.mx (mz (whole a) n i)),(231019,231019,.rw 3 ((FU ((a.map C6).take i) n).map eO))]) [] [] 0 (by first|exact (by (conv=>whnf);exact ⟨rfl,rfl,rfl⟩)|(rw[<-YF (whole a),List.take_zero,<-KS];exact (by (conv=>whnf);exact ⟨rfl,rfl,rfl⟩))) (by omega) ?_;intro i p1 ih;have hzl:=YD (Q:=whole a) p1;by_cases hi:i<n
 ·obtain ⟨r,hr⟩ : ∃ r,a[i]? = some r:=⟨_,zE (by omega)⟩
  have hr':a[(i:Int).toNat]? = some r:=hr;have hrl:=haw r (zM hr);have hrb:=hab.at hr;have hst:=YE (Q:=whole a) (i:=i) (n:=n) (row:=r.map (· * C6 r)) (by simp [whole,hr]) hi;have hsca:(a.map C6)[i]? = some (C6 r):=by simp [hr]
  generalize mz (whole a) n i=R0 at *;have hsb : ∀ j,Bt K (C6 (r.take j)):=hsb0 r (zM hr);have hscr:=hsb WW;rw[List.take_of_length_le (by omega)]at hscr;(repeat' ((first|(apply BR<;>intro hc<;>try (exfalso;omega))|(apply CE;omega)|apply CB|(refine HZ ?_ (λ_=>rfl) (λ v hv => ?_);omega)|apply BA|refine BH (hI) ?_)<;>conv=>whnf));try cases hr.symm.trans hv;refine I4 (λ j _=>WW-j) (λ(j:Nat) (s:Rat)=>j<=WW/\s=C6 (r.take j)) (λ j _=>[(30,.int .i64 j)]) (λ_ s=>[(231008,231008,.bx (eQ s))]) [] [] 0 ((1:Int):Rat) (by (conv=>whnf);exact ⟨rfl,rfl,rfl⟩) ⟨by omega,by rw[List.take_zero];rfl⟩ ?_;intro j s ⟨p2,p3⟩ jh;by_cases hj:j<WW
  ·obtain ⟨x,hx⟩ : ∃ x,r[j]? = some x:=⟨_,zE (by omega)⟩
   have hx':r[(j:Int).toNat]? = some x:=hx;have hsj:Bt K s:=by rw[p3];exact hsb j
   have bx:=hrb.at hx;have hM1:=K8 N.toRatGLib hsj bx (by omega) (by omega);have hM2:=nC N.toRatGLib true hsj (hsj.mul bx).2 (by omega) (by omega);have hnx:C6 (r.take (j+1))=s*(((s*x).den:Nat):Rat):=by rw[LE hx,qI,<-p3];rfl
   (repeat' ((first|(apply BR<;>intro hc<;>try (exfalso;omega))|(apply CJ;omega)|(refine CY (by assumption) ?_ rfl ?_;omega)|refine KM rfl ?_|apply BA|refine BH (hM1) ?_|refine BH (hM2) ?_)<;>conv=>whnf))
   exact DE [] (by (conv=>whnf);exact ⟨rfl,rfl,rfl⟩) (jh (j+1) _ (by omega) ⟨by omega,hnx.symm⟩)
  have ej:j=WW:=by omega
  clear jh;rw[List.take_of_length_le (by omega)]at p3;subst p3;(repeat' ((first|(apply BR<;>intro hc<;>try (exfalso;omega))|apply CB|apply BA)<;>conv=>whnf));rw[hrl];refine GU (enc:=eO) none WW rfl (by omega) (by omega) ?_;(conv=>whnf);(repeat' ((first|(apply CE;omega)|fail)<;>conv=>whnf));refine CE (by simp) ?_;refine OV (i:=i) (by omega) (by omega) ?_;(conv=>whnf);(repeat' (apply CB<;>conv=>whnf));refine DG (λ j=>WW-j) (λ(j:Nat)=>j<=WW) (λ j=>[(53,.int .i64 j)]) (λ j=>[(231016,231016,.mx (R0.set i (some (3,(FU ((r.map (· * C6 r)).take j) WW).map eO))))]) [] [] 0 (by first|exact (by (conv=>whnf);exact ⟨rfl,rfl,rfl⟩)|(rw[List.take_zero,<-KS];exact (by (conv=>whnf);exact ⟨rfl,rfl,rfl⟩))) (by omega) ?_;intro j r2 jh;have htj:((r.map (· * C6 r)).take j).length=j:=by rw[List.length_take,List.length_map];omega
  have hlf:=JO (l:=(r.map (· * C6 r)).take j) (m:=WW) (by omega);by_cases hj:j<WW
  ·obtain ⟨x,hx⟩ : ∃ x,r[j]? = some x:=⟨_,zE (by omega)⟩
   have hx':r[(j:Int).toNat]? = some x:=hx;have bx:=hrb.at hx;have hM1:=K8 N.toRatGLib bx hscr (by omega) (by omega);have hs:=KU (l:=(r.map (· * C6 r)).take j) (m:=WW) (x:=x*C6 r) (by omega);rw[htj,<-LE (show (r.map (· * C6 r))[j]? = some (x*C6 r) by rw[List.getElem?_map,hx];rfl)]at hs;generalize FU ((r.map (· * C6 r)).take j) WW=W0 at *;(repeat' ((first|(apply BR<;>intro hc<;>try (exfalso;omega))|(apply CE;omega)|(refine CY (by assumption) ?_ rfl ?_;omega)|apply BA)<;>conv=>whnf));refine MW (by omega) (by omega) ?_;(conv=>whnf);(repeat' (refine BH (hM1) ?_<;>conv=>whnf));refine CE (by rw[List.length_map];omega) ?_;(conv=>whnf);skip;refine L3 (by omega) (by omega) ?_;(conv=>whnf);refine G8 (enc:=eO) (some (x*C6 r)) rfl (λ e=>by cases e<;>rfl) (by omega) ?_;(conv=>whnf);rw[hs];refine V1 (by omega) (by rw[List.length_map,List.length_map,<-hs,List.length_set]) ?_;(conv=>whnf);(repeat' ((first|(apply CJ;omega)|fail)<;>conv=>whnf));exact C7 [] (jh (j+1) (by omega) (by omega))
  have ej:j=WW:=by omega
  clear jh;rw[List.take_of_length_le (by rw[List.length_map];omega),K9 (by rw[List.length_map];exact hrl),hst];have hti:((a.map C6).take i).length=i:=by rw[List.length_take,List.length_map];omega
  have hfi:=JO (l:=(a.map C6).take i) (m:=n) (by omega);have hfs:=KU (l:=(a.map C6).take i) (m:=n) (x:=C6 r) (by omega);rw[hti,<-LE hsca]at hfs;generalize FU ((a.map C6).take i) n=W1 at *;(repeat' ((first|(apply BR<;>intro hc<;>try (exfalso;omega))|(apply CE;omega)|apply BA)<;>conv=>whnf));refine G8 (enc:=eO) (some (C6 r)) rfl (λ e=>by cases e<;>rfl) (by omega) ?_;(conv=>whnf);rw[hfs];(repeat' ((first|(apply CJ;omega)|fail)<;>conv=>whnf));exact C7 [] (ih (i+1) (by omega) (by omega))
 have ei:i=n:=by omega
 clear ih;rw[ei,X9 (by simp [whole,hal]),List.take_of_length_le (by rw[List.length_map];omega),K9 (by rw[List.length_map];exact hal)];(repeat' ((first|(apply BR<;>intro hc<;>try (exfalso;omega))|apply BA)<;>conv=>whnf));exact DE [] (by (conv=>whnf);exact ⟨rfl,rfl,rfl⟩) hfin
theorem Alk (N:MatGLib L) (q2 q3:Bool) (b0 jm:List (List Rat)) {m0 m1:List (List Rat)} {n cw WW K0 c:Nat} {P:List Nat} {o:Bool} {l:Rat} {rp:List Rat} (sc:List Rat) (hm0l:m0.length=n) (hn:1<=n/\n<=52) (hW:cw<=WW) (hW2:WW<=104) (hK0:1<=K0) (hB:6^n*K0<=1000000000000) (hP:P.length<n) (hcn:c<cw) (hS:L5 m0 K0 WW cw P c o l rp m1 (P.length+1)) {kk:List It} {Q:Tm->Mem->Prop}
  (hfin : ∀ m2,L5 m0 K0 WW cw P c o l rp m2 n->AH L kk ([(9,.bool o),(8,.int .i64 c),(7,.int .i64 (P.length:Nat)),(10,.ptr 233010 0 0 0),(5,.ptr 233005 0 0 0),(0,.row 231016 0 1 0 n),(0+1,.int .i64 cw)]++[(1000+49,.int .i64 n),(1000+48,.row 231016 0 1 0 n),(1000+9,.row 231016 0 1 0 n),(1000+6,.int .i64 n),(1000+(0+1),.sl q2 (FE q3 b0))]) ([(231016,231016,.mx (C1 3 eQ m2)),(233010,233010,.bx (eQ l)),(233005,233005,.bx [.bool false,.nil,.nil])]++[(22,22,.rw 1 (eM jm)),(231019,231019,.rw 3 (sc.map eQ))]) Q) :
  AH L (.lp OA.l4 :: .blk 6::kk) ([(12,.int .i64 ((P.length+1:Nat):Int)),(9,.bool o),(8,.int .i64 c),(7,.int .i64 (P.length:Nat)),(10,.ptr 233010 0 0 0),(5,.ptr 233005 0 0 0),(0,.row 231016 0 1 0 n),(0+1,.int .i64 cw)]++[(1000+49,.int .i64 n),(1000+48,.row 231016 0 1 0 n),(1000+9,.row 231016 0 1 0 n),(1000+6,.int .i64 n),(1000+(0+1),.sl q2 (FE q3 b0))]) ([(231016,231016,.mx (C1 3 eQ m1)),(233010,233010,.bx (eQ l)),(233005,233005,.bx [.bool false,.nil,.nil])]++[(22,22,.rw 1 (eM jm)),(231019,231019,.rw 3 (sc.map eQ))]) Q:=by
 refine VV (l:=[_,_]) rfl ?_;refine I4 (λ_ i=>n-i) (λ(m:List (List Rat)) (i:Nat)=>L5 m0 K0 WW cw P c o l rp m i/\P.length+1<=i/\i<=n) (λ_ i=>[(12,.int .i64 i)]) (λ m _=>[(231016,231016,.mx (C1 3 eQ m))]) [] [] m1 (P.length+1) (by (conv=>whnf);exact ⟨rfl,rfl,rfl⟩) ⟨hS,by omega,by omega⟩ ?_;clear hS;intro m2 i ⟨hS,j1,j2⟩ sh;have hml2:=hS.len;rw[hm0l]at hml2;by_cases hj:i<n
 ·obtain ⟨rq,hq0⟩ : ∃ r,m2[i]? = some r:=⟨_,zE (by omega)⟩
  have ht0':=hS.ht;have hrql:=hS.ech.lr rq (zM hq0);have htl:=hS.ech.lr rp (zM ht0');(repeat' ((first|(apply BR<;>intro hc<;>try (exfalso;omega))|(apply CE;omega)|(refine HJ ?_ (λ r hr => ?_);omega)|apply BA)<;>conv=>whnf));rename_i rA hrA;cases hq0.symm.trans hrA;cases ht0'.symm.trans hr;rw[show 0+((i:Nat):Int).toNat=i by omega,show 0+((P.length:Nat):Int).toNat=P.length by omega,show (List.map eQ rq).length=WW by rw[List.length_map];exact hrql,show (List.map eQ rp).length=WW by rw[List.length_map];exact htl];have hqc0:rq[c]? = some (rq.getD c 0):=O2 (by omega);refine HI 1000 N.PK rfl rfl ?_;have hpc0:rp[c]? = some (rp.getD c 0):=O2 (by omega);have hst2:=hS.step (by omega) hq0;have hcl:(comb (rp.getD c 0) (rq.getD c 0) l rq rp).length=WW:=by rw[vJ (by omega)];exact hrql
  have hcg:=λ j=>lV (p:=rp.getD c 0) (f:=rq.getD c 0) (l:=l) (r:=rq) (t:=rp) (by omega) j
  have hz1:=λ j (h:j<c)=>hS.ech.zr i rq (by omega) hq0 j h
  have hz2:=λ j (h:j<c)=>hS.ech.zr P.length rp (Nat.le_refl _) ht0' j h
  have hbq:=hS.hi i rq (Nat.le_refl i) hq0;have hbp:=hS.bt;have hbl:=hS.bl;have hl0:=hS.l0;have hbpc:=hbp.at hpc0;have hbqc:=hbq.at hqc0;generalize hpv:rp.getD c 0=pv at *;generalize hfv:rq.getD c 0=fv at *;generalize hcb:comb pv fv l rq rp=cb at *;have hmix0:cb.take c++rq.drop c=rq:=Ake (by omega) λ j hj=>⟨by rw[hcg,hz1 j hj,hz2 j hj,Rat.zero_mul,Rat.zero_mul,Rat.sub_eq_add_neg,Rat.neg_zero,Rat.add_zero,Rat.div_def,Rat.zero_mul],hz1 j hj⟩
  have hRi:=PR (z:=3) hq0;have hRp:=PR (z:=3) ht0';have hRn:(C1 3 eQ m2).length=n:=by simp only[C1,List.length_map];omega
  have hRf:(C1 3 eQ m2).set i (some (3,cb.map eQ))=C1 3 eQ (m2.set i cb):=by simp only[C1,List.map_set]
  generalize C1 3 eQ m2=R2 at *;have hR0:R2.set i (some (3,rq.map eQ))=R2:=dV hRi;(repeat' ((first|(apply CE;omega)|apply BA)<;>conv=>whnf));refine ZD hRp ?_;(conv=>whnf);(repeat' ((first|(apply CE;omega)|(refine HZ ?_ (λ_=>rfl) (λ v hv => ?_);omega))<;>conv=>whnf));cases hpc0.symm.trans hv;skip;refine ZD hRi ?_;(conv=>whnf);(repeat' ((first|(refine HZ ?_ (λ_=>rfl) (λ v hv => ?_);omega)|fail)<;>conv=>whnf));cases hqc0.symm.trans hv;skip;have hp7:=Nat.le_trans (Ku hK0 P.length) (pI hB (show P.length+1<=n by omega));generalize 6^P.length*K0=BB at *;refine DG (λ j=>WW-j) (λ(j:Nat)=>c<=j/\j<=WW) (λ j=>[(10,.int .i64 j)]) (λ j=>[(231016,231016,.mx (R2.set i (some (3,(cb.take j++rq.drop j).map eQ))))]) [] [] c (by first|exact (by (conv=>whnf);exact ⟨rfl,rfl,rfl⟩)|(rw[hmix0,hR0];exact (by (conv=>whnf);exact ⟨rfl,rfl,rfl⟩))) ⟨by omega,by omega⟩ ?_;intro j ⟨k1,k2⟩ jh;have hml:(cb.take j++rq.drop j).length=WW:=by rw[List.length_append,List.length_take,List.length_drop];omega
  by_cases hjn:j<WW
  ·obtain ⟨x,hx⟩ : ∃ x,rq[j]? = some x:=⟨_,zE (by omega)⟩
   obtain ⟨y,hy⟩ : ∃ y,rp[j]? = some y:=⟨_,zE (by omega)⟩;have hcj:cb[j]? = some ((x*pv-y*fv)/l):=by rw[<-hcb];exact Wq hx hy
   have hma:=Akc (a:=cb) (by omega) hx;have hms:=Akd (b:=rq) (by omega) hcj;have bx:=hbq.at hx;have by':=hbp.at hy
   have hM1:=K8 N.toRatGLib bx hbpc (by omega) (by omega);have hM2:=K8 N.toRatGLib by' hbqc (by omega) (by omega)
   have hSu:=nO N.toRatHLib (bx.mul hbpc) (by'.mul hbqc) (by omega) (by omega);have hDi:=gZ N.toRatGLib ((bx.mul hbpc).subL (by'.mul hbqc)) hbl (by omega) (by omega) hl0;have hRp2:(R2.set i (some (3,(cb.take j++rq.drop j).map eQ)))[P.length]? = some (some (3,rp.map eQ)):=by rw[List.getElem?_set,if_neg (by omega)];exact hRp
   generalize cb.take j++rq.drop j=cm at *;(repeat' ((first|(apply BR<;>intro hc<;>try (exfalso;omega))|(apply CE;omega)|apply BA)<;>conv=>whnf));refine L3 rfl (by omega) ?_;(conv=>whnf);(repeat' ((first|(refine HZ ?_ (λ_=>rfl) (λ v hv => ?_);omega)|fail)<;>conv=>whnf));cases hma.symm.trans hv;(repeat' ((first|(apply CE;omega)|refine BH (hM1) ?_)<;>conv=>whnf));refine ZD hRp2 ?_;(conv=>whnf);(repeat' ((first|(refine HZ ?_ (λ_=>rfl) (λ v hv => ?_);omega)|fail)<;>conv=>whnf));cases hy.symm.trans hv;(repeat' ((first|refine BH (hM2) ?_|refine BH (hSu) ?_)<;>conv=>whnf));(repeat' ((first|(apply CE;omega)|refine BH (hDi) ?_)<;>conv=>whnf));refine L3 rfl (by omega) ?_;(conv=>whnf);refine G8 (enc:=eQ) ((x*pv-y*fv)/l) rfl (λ_=>rfl) (by omega) ?_;rw[hms];(conv=>whnf);refine V1 rfl (by rw[List.length_map,List.length_map,<-hms,List.length_set]) ?_;(conv=>whnf);(repeat' ((first|(apply CJ;omega)|fail)<;>conv=>whnf));exact C7 [] (jh (j+1) (by omega) ⟨by omega,by omega⟩)
  ·have ej:j=WW:=by omega
   clear jh;rw[List.take_of_length_le (by omega),List.drop_of_length_le (by omega),List.append_nil,hRf];(repeat' ((first|(apply BR<;>intro hc<;>try (exfalso;omega))|apply BA)<;>conv=>whnf));refine ⟨rfl,_,rfl,?_⟩;(conv=>whnf);(repeat' ((first|(apply CJ;omega)|fail)<;>conv=>whnf));exact C7 [] (sh (m2.set i cb) (i+1) (by omega) ⟨hst2,by omega,by omega⟩)
 ·have ei:i=n:=by omega
  clear sh;rw[ei]at hS;(repeat' ((first|(apply BR<;>intro hc<;>try (exfalso;omega))|apply BA)<;>conv=>whnf));exact DE [] (by (conv=>whnf);exact ⟨rfl,rfl,rfl⟩) (hfin m2 hS)
theorem Kk {a b:List (List Rat)} {n w k:Nat} (haw : ∀ r∈a,r.length=n) (hbw : ∀ r∈b,r.length=w) (hab:Ms k a) (hbb:Ms k b):(∀ r∈d5 a b,r.length=n+w)/\Ms k (d5 a b):=by
 constructor
 ·intro r hr
  obtain ⟨i,hi⟩:=List.getElem?_of_mem hr;have hil:=(zS hi).1;simp only[d5,List.length_zipWith]at hil;obtain ⟨x,hx⟩ : ∃ x,a[i]? = some x:=⟨_,zE (by omega)⟩;obtain ⟨y,hy⟩ : ∃ y,b[i]? = some y:=⟨_,zE (by omega)⟩;obtain rfl:=Option.some.inj ((WH hx hy).symm.trans hi);rw[List.length_append,haw x (zM hx),hbw y (zM hy)]
 ·intro r hr
  obtain ⟨i,hi⟩:=List.getElem?_of_mem hr;have hil:=(zS hi).1;simp only[d5,List.length_zipWith]at hil;obtain ⟨x,hx⟩ : ∃ x,a[i]? = some x:=⟨_,zE (by omega)⟩;obtain ⟨y,hy⟩ : ∃ y,b[i]? = some y:=⟨_,zE (by omega)⟩;obtain rfl:=Option.some.inj ((WH hx hy).symm.trans hi);intro z hz;rcases List.mem_append.1 hz with hz|hz
  ·exact hab.at hx z hz
  ·exact hbb.at hy z hz
theorem AiB (N:MatGLib L) (q q1 q2 q3:Bool) (a b:List (List Rat)) (n w k K0:Nat) (hal:a.length=n) (haw : ∀ r∈a,r.length=n) (hbl:b.length=n) (hbw : ∀ r∈b,r.length=w) (hn:1<=n/\n<=52) (hw:1<=w/\w<=52) (hkK:k<=K0) (hK0:1<=K0) (hab:Ms k a) (hbb:Ms k b)
  (hsb0 : ∀ r∈d5 a b,∀ j,Bt K0 (C6 (r.take j))) (hwb:Ms K0 (whole (d5 a b)))
  (hB:6^n*K0<=1000000000000) (hC:HR (6^n*K0) n n<=1000000000000) {B0:Nat} (hB0:HR (6^n*K0) n n+6^n*K0<=B0) :
  ∃ v,Ev L 235 [.sl q (FE q1 a),.sl q2 (FE q3 b)] v/\((¬ NS n a/\v = .tup [.sl false [],.int .i64 11])\/(NS n a /\ ∃ y:Nat->List Rat,v = .tup [.sl false (eM (VI y n w)),.int .i64 0] /\
   ∀ c,c<w->(y c).length=n/\Bs B0 (y c) /\ ∀ (i:Nat) (r s:List Rat),a[i]? = some r->b[i]? = some s->CI r (y c)=s.getD c 0)):=by
 have hI:=LN N.toRatGLib 1 (by omega);have hjl:(d5 a b).length=n:=by simp [d5,hal,hbl]
 have hjw : ∀ r∈d5 a b,r.length=n+w:=λ r hr=>by
  obtain ⟨i,hi⟩:=List.getElem?_of_mem hr;have hil:=(zS hi).1;obtain ⟨x,hx⟩ : ∃ x,a[i]? = some x:=⟨_,zE (by omega)⟩;obtain ⟨y,hy⟩ : ∃ y,b[i]? = some y:=⟨_,zE (by omega)⟩;obtain rfl:=Option.some.inj ((WH hx hy).symm.trans hi);rw[List.length_append,haw x (zM hx),hbw y (zM hy)]
 have hjb:Ms k (d5 a b):=λ r hr=>by
  obtain ⟨i,hi⟩:=List.getElem?_of_mem hr;have hil:=(zS hi).1;obtain ⟨x,hx⟩ : ∃ x,a[i]? = some x:=⟨_,zE (by omega)⟩;obtain ⟨y,hy⟩ : ∃ y,b[i]? = some y:=⟨_,zE (by omega)⟩;obtain rfl:=Option.some.inj ((WH hx hy).symm.trans hi);intro z hz;rcases List.mem_append.1 hz with hz|hz
  ·exact hab.at hx z hz
  ·exact hbb.at hy z hz
 refine Ev.xE N.PJ rfl rfl ?_;(repeat' ((first|apply CB|apply BA)<;>conv=>whnf));unfold E1;refine ⟨⟨by omega,by omega,by simp only[FR];omega,by omega⟩,?_⟩;rw[Int.toNat_natCast,hal];(conv=>whnf);skip;refine Tk 22 22 n rfl ?_;refine DG (λ i=>n-i) (λ(i:Nat)=>i<=n) (λ i=>[(25,.int .i64 i)]) (λ i=>[(22,22,.rw 1 ((fz none (((d5 a b).take i).map some) n).map mQ))]) [] [] 0 (by first|exact (by (conv=>whnf);exact ⟨rfl,rfl,rfl⟩)|(rw[List.take_zero,List.map_nil,show fz (none:Option (List Rat)) [] n=List.replicate n none by simp [fz],List.map_replicate];exact (by (conv=>whnf);exact ⟨rfl,rfl,rfl⟩))) (by omega) ?_;intro i p1 ih;by_cases hi:i<n
 ·obtain ⟨r,hr0⟩ : ∃ r,a[i]? = some r:=⟨_,zE (by omega)⟩
  obtain ⟨s,hs0⟩ : ∃ s,b[i]? = some s:=⟨_,zE (by omega)⟩;have hr':a[(i:Int).toNat]? = some r:=hr0;have hs':b[(i:Int).toNat]? = some s:=hs0;have hrl:=haw r (zM hr0);have hsl:=hbw s (zM hs0);have hCc:=Ahl N true q1 q3 r s (by omega) (by omega) (by omega);have hti:(((d5 a b).take i).map some).length=i:=by rw[List.length_map,List.length_take];omega
  have hfl:=iG (z:=(none:Option (List Rat))) (l:=((d5 a b).take i).map some) (m:=n) (by omega);have hfs:=iH (z:=(none:Option (List Rat))) (x:=some (r++s)) (l:=((d5 a b).take i).map some) (m:=n) (by omega);have hta:(d5 a b).take (i+1)=(d5 a b).take i++[r++s]:=by rw[List.take_add_one,WH hr0 hs0];rfl
  rw[hti,show ((d5 a b).take i).map some++[some (r++s)]=((d5 a b).take (i+1)).map some by rw[hta,List.map_append];rfl]at hfs;generalize fz (none:Option (List Rat)) (((d5 a b).take i).map some) n=J at *;(repeat' ((first|(apply BR<;>intro hc<;>try (exfalso;omega))|(apply CE;omega)|(refine CY (by assumption) ?_ rfl ?_;omega)|refine ZI rfl rfl ?_|apply BA|refine BH (hCc) ?_)<;>conv=>whnf));refine G8 (enc:=mQ) (some (r++s)) rfl (λ e=>by cases e<;>rfl) (by omega) ?_;(conv=>whnf);rw[hfs];(repeat' ((first|(apply CJ;omega)|fail)<;>conv=>whnf));exact C7 [] (ih (i+1) (by omega) (by omega))
 have ei:i=n:=by omega
 clear ih;rw[ei,List.take_of_length_le (by omega),AiI hjl];(repeat' ((first|(apply BR<;>intro hc<;>try (exfalso;omega))|apply BA)<;>conv=>whnf));have hKB:K0<=1000000000000:=by simpa using pI hB (Nat.zero_le n)
 refine HI 1000 N.KC rfl rfl ?_;(repeat' (apply BA<;>conv=>whnf));unfold E1;refine ⟨⟨by omega,by omega,by simp only[FR];omega,by omega⟩,?_⟩;rw[Int.toNat_natCast];(conv=>whnf);skip;refine GU (enc:=eO) none n rfl (by omega) (by omega) ?_;(conv=>whnf);skip;refine DE [] (by (conv=>whnf);exact ⟨rfl,rfl,rfl⟩) (All N q q1 q2 q3 a b (d5 a b) n (n+w) k hjl hjw hn (by omega) hjb hsb0 hkK hKB ?_);(repeat' (apply BA<;>conv=>whnf));refine ⟨rfl,_,rfl,?_⟩;(conv=>whnf);skip;have hW2:n+w<=104:=by omega
 have hW:n<=n+w:=by omega
 have hm0l:(whole (d5 a b)).length=n:=by simp only[whole,List.length_map];exact hjl
 have hm0w:=sA hjw;have hm0b:=hwb;have hm0s:=AlU (d5 a b);have hjj:a.length=b.length:=by omega
 clear hjb hjw hab hbb hKB ei hi p1 i hsb0 hwb hkK;generalize whole (d5 a b)=m0 at hm0l hm0w hm0b hm0s ⊢;refine H7 1000 N.OA rfl rfl ?_;(repeat' ((first|apply BA|refine BH (hI) ?_)<;>conv=>whnf));refine Th (λ_ P _ _ _=>n-P.length) (λ(m:List (List Rat)) (P:List Nat) (c:Nat) (odd:Bool) (l:Rat)=>HQ m0 K0 (n+w) n m P c odd l) (λ_ P c odd _=>[(7,.int .i64 (P.length:Nat)),(8,.int .i64 c),(9,.bool odd)]) (λ m _ _ _ l=>[(231016,231016,.mx (C1 3 eQ m)),(233010,233010,.bx (eQ l))]) [] [] m0 [] 0 false ((1:Int):Rat) (by (conv=>whnf);exact ⟨rfl,rfl,rfl⟩) (HQ.start hm0w hm0b) ?_;intro m P c odd l hE eh;have hml:=hE.len;have hPl:=hE.ech.pl;rw[hm0l]at hml;by_cases hP:P.length<n
 ·have hp6:=pI hB (show P.length<=n by omega)
  (repeat' ((first|(apply BR<;>intro hc<;>try (exfalso;omega))|apply BA)<;>conv=>whnf))
  refine Tj (l:=[_,_]) (λ(m1:List (List Rat)) (c:Nat) (o:Bool)=>HQ m0 K0 (n+w) n m1 P c o l/\(c<n -> ∃ rp,m1[P.length]? = some rp/\rp.getD c 0≠0)) (λ_ c o=>[(8,.int .i64 c),(9,.bool o)]) (λ m1 _ _=>[(231016,231016,.mx (C1 3 eQ m1))]) [17] rfl ?_ ?_
  ·clear hE hml hPl
   intro m1 c odd1 ⟨hE,hpv⟩;have hml:=hE.len;have hPl:=hE.ech.pl;have hcc:=hE.cc;rw[hm0l]at hml;by_cases hcn:c<n
   ·obtain ⟨rp,hp0,hpn⟩:=hpv hcn
    clear hpv;have hS:=hE.swp hcn hp0 hpn;(repeat' ((first|(apply BR<;>intro hc<;>try (exfalso;omega))|(apply CJ;omega)|apply BA)<;>conv=>whnf));refine DE [] (by (conv=>whnf);exact ⟨rfl,rfl,rfl⟩) (Alk N q2 q3 b (d5 a b) ((d5 a b).map C6) hm0l hn hW hW2 hK0 hB hP hcn hS λ m2 hS => ?_);have ht0':=hS.ht;have hrpl:=hS.ech.lr rp (zM ht0');have hpc0:rp[c]? = some (rp.getD c 0):=O2 (by omega);have hml2:=hS.len;have hfin:=hS.done hK0 (by omega);have hPl2:(P++[c]).length=P.length+1:=by simp
    generalize rp.getD c 0=pv at hpc0 hfin;clear hS hE hpn hp0;(repeat' ((first|(apply CE;omega)|(refine HJ ?_ (λ r hr => ?_);omega)|apply BA)<;>conv=>whnf));cases ht0'.symm.trans hr;refine CE (by rw[List.length_map];omega) ?_;(conv=>whnf);(repeat' ((first|(apply CJ;omega)|(refine HZ ?_ (λ_=>rfl) (λ v hv => ?_);omega)|refine H8 (by assumption) ?_)<;>conv=>whnf));cases hpc0.symm.trans hv;skip;rw[show ((P.length:Nat):Int)+1=((P++[c]).length:Nat) by rw[hPl2];omega];exact DE [] (by (conv=>whnf);exact ⟨rfl,rfl,rfl⟩) (eh m2 (P++[c]) (c+1) _ pv (by rw[hPl2];omega) hfin)
   ·clear eh hpv
    (repeat' ((first|(apply BR<;>intro hc<;>try (exfalso;omega))|apply BA)<;>conv=>whnf))
    refine ⟨rfl,?_⟩;(conv=>whnf);(repeat' ((first|(apply BR<;>intro hc<;>try (exfalso;omega))|fail)<;>conv=>whnf));have hend:n<=c\/n<=P.length:=Or.inl (by omega);have hrk:=xK (w:=w) hE hm0s hjj haw hal hend;skip;refine ⟨.tup [.sl false [],.int .i64 11],?_,Or.inl ⟨λ h=>absurd (hrk.2 h) (by omega),rfl⟩⟩;(conv=>whnf);exact CK rfl (T4 [] 11)
  ·clear eh
   intro hmeet;refine DG (λ c=>n-c) (λ(c:Nat)=>HQ m0 K0 (n+w) n m P c odd l) (λ c=>[(8,.int .i64 c)]) (λ_=>[]) [17] [] c (by (conv=>whnf);exact ⟨rfl,rfl,rfl⟩) hE ?_;clear hE;intro c hE ch;have hcc:=hE.cc;by_cases hcn:c<n
   ·(repeat' ((first|(apply BR<;>intro hc<;>try (exfalso;omega))|apply BA)<;>conv=>whnf))
    refine DG (λ i=>n-i) (λ(i:Nat)=>P.length<=i/\i<=n /\ ∀ (q:Nat) (r:List Rat),P.length<=q->q<i->m[q]? = some r->r.getD c 0=0) (λ i=>[(11,.int .i64 i)]) (λ_=>[]) [] [] P.length (by (conv=>whnf);exact ⟨rfl,rfl,rfl⟩) ⟨Nat.le_refl _,by omega,λ q r h1 h2=>absurd h1 (by omega)⟩ ?_;intro i ⟨i1,i2,i3⟩ ih;by_cases hi:i<n
    ·obtain ⟨rp,hr0⟩ : ∃ r,m[i]? = some r:=⟨_,zE (by omega)⟩
     have hrl:=hE.ech.lr rp (zM hr0);have hrc0:rp[c]? = some (rp.getD c 0):=O2 (by omega);have hSg:=N6 N.toRatGLib (hE.ms.at hr0 _ (zM hrc0)) (by omega);have hz:=OO (x:=rp.getD c 0);generalize hrcv:rp.getD c 0=rc at *;generalize sgn rc.num=sg at *;by_cases hsg:sg=0
     ·(repeat' ((first|(apply BR<;>intro hc<;>try (exfalso;omega))|(apply CE;omega)|(refine HJ ?_ (λ r hr => ?_);omega)|apply BA)<;>conv=>whnf))
      cases hr0.symm.trans hr;refine CE (by rw[List.length_map];omega) ?_;(conv=>whnf);(repeat' ((first|(refine HZ ?_ (λ_=>rfl) (λ v hv => ?_);omega)|refine H8 (by assumption) ?_)<;>conv=>whnf));cases hrc0.symm.trans hv;(repeat' ((first|(apply BR<;>intro hc<;>try (exfalso;omega))|(apply CJ;omega)|refine BH (hSg) ?_)<;>conv=>whnf));refine DE [] (by (conv=>whnf);exact ⟨rfl,rfl,rfl⟩) (ih (i+1) (by omega) ⟨by omega,by omega,λ q x h1 h2 hx => ?_⟩);by_cases e:q=i
      ·subst e
       cases hr0.symm.trans hx;rw[hrcv];exact hz.1 hsg
      ·exact i3 q x h1 (by omega) hx
     ·clear ih ch
      have hnz:rc≠0:=λ e=>hsg (hz.2 e)
      (repeat' ((first|(apply BR<;>intro hc<;>try (exfalso;omega))|(apply CE;omega)|(refine HJ ?_ (λ r hr => ?_);omega)|apply BA)<;>conv=>whnf))
      cases hr0.symm.trans hr;refine CE (by rw[List.length_map];omega) ?_;(conv=>whnf);(repeat' ((first|(refine HZ ?_ (λ_=>rfl) (λ v hv => ?_);omega)|refine H8 (by assumption) ?_)<;>conv=>whnf));cases hrc0.symm.trans hv;(repeat' ((first|(apply BR<;>intro hc<;>try (exfalso;omega))|(apply CE;omega)|(refine HJ ?_ (λ r hr => ?_);omega)|refine H8 (by assumption) ?_|refine BH (hSg) ?_)<;>conv=>whnf))
      ·obtain ⟨t,ht0⟩ : ∃ t,m[P.length]? = some t:=⟨_,zE (by omega)⟩
       refine CE ⟨rfl,by simp only[C1,List.length_map];omega⟩ ?_;(conv=>whnf);(repeat' ((first|(apply CE;omega)|refine H8 (by assumption) ?_)<;>conv=>whnf));rw[show 0+((i:Nat):Int).toNat=i by omega,show 0+((P.length:Nat):Int).toNat=P.length by omega];refine CE ⟨rfl,by simp only[C1,List.length_map,List.length_set,List.length_range];omega,Ow (by simp only[C1,List.length_map];omega)⟩ ?_;(conv=>whnf);skip;have hE2:=hE.swap hr0 ht0 i1 (Nat.le_refl _) (by omega);have hS2:c<n -> ∃ rp',((m.set i t).set P.length rp)[P.length]? = some rp'/\rp'.getD c 0≠0:=λ_=>⟨rp,by rw[List.getElem?_set,if_pos rfl,if_pos (by rw[List.length_set];omega)],by rw[hrcv];exact hnz⟩
       generalize hob:(!odd)=ob at *;cases ob;all_goals
        (conv=>whnf)
        skip
        refine eP.go ?_;refine sH (k:=231016) (i:=i) (j:=P.length) rfl (PR hr0) (PR ht0) rfl rfl ?_;rw[Ie];exact DE [] (by (conv=>whnf);exact ⟨rfl,rfl,rfl⟩) (hmeet _ c _ ⟨hE2,hS2⟩)
      ·have ei:i=P.length:=by omega
       exact eP.go (DE [] (by (conv=>whnf);exact ⟨rfl,rfl,rfl⟩) (hmeet m c odd ⟨hE,λ_=>⟨rp,by rw[<-ei];exact hr0,by rw[hrcv];exact hnz⟩⟩))
    ·have ei:i=n:=by omega
     clear ih;(repeat' ((first|(apply BR<;>intro hc<;>try (exfalso;omega))|(apply CJ;omega)|apply BA)<;>conv=>whnf));exact C7 [] (ch (c+1) (by omega) (hE.skip hcn λ q x h1 hx=>i3 q x h1 (by have:=(zS hx).1;omega) hx))
   ·clear ch
    (repeat' ((first|(apply BR<;>intro hc<;>try (exfalso;omega))|apply BA)<;>conv=>whnf))
    exact eP.go (DE [] (by (conv=>whnf);exact ⟨rfl,rfl,rfl⟩) (hmeet m c odd ⟨hE,λ h=>absurd h hcn⟩))
 ·clear eh
  (repeat' ((first|(apply BR<;>intro hc<;>try (exfalso;omega))|apply BA)<;>conv=>whnf))
  refine ⟨rfl,?_⟩;(conv=>whnf);(repeat' ((first|(apply BR<;>intro hc<;>try (exfalso;omega))|fail)<;>conv=>whnf));have hend:n<=c\/n<=P.length:=Or.inr (by omega);have hrk:=xK (w:=w) hE hm0s hjj haw hal hend;have hPn:P.length=n:=by have:=hE.ech.le;have:=hE.ech.pl;omega
  have hns:=hrk.1 hPn;have hfac:=Alj hE hm0s hjj haw hbw hPn hml;have htri:=Mq hE hPn hml;have hmw:=hE.ech.lr;have hms:=hE.ms;have hbl0:=hE.bl;have hl0:=hE.l0;rw[hPn]at hms hbl0;clear hE hrk hPl hm0b hm0w hm0s;have hdg : ∀ (e:Nat) (r:List Rat),m[e]? = some r->r.getD e 0≠0:=λ e r hr=>by
   rw[<-V4 hr];exact (htri e (by have:=(zS hr).1;omega)).1
  skip
  unfold E1;refine ⟨⟨by omega,by omega,by simp only[FR];omega,by omega⟩,?_⟩;rw[Int.toNat_natCast];(conv=>whnf);skip;refine DG (λ u=>n-u) (λ(u:Nat)=>u<=n) (λ u=>[(61,.int .i64 u)]) (λ u=>[(58,58,.mx (List.replicate u (some (3,(FU [] w).map eO))++List.replicate (n-u) none))]) [] [] 0 (by (conv=>whnf);exact ⟨rfl,rfl,rfl⟩) (by omega) ?_;intro u r1 uh;by_cases hu:u<n
  ·obtain ⟨s,hs0⟩ : ∃ s,b[u]? = some s:=⟨_,zE (by omega)⟩
   have hs':b[(u:Int).toNat]? = some s:=hs0;have hsl:=hbw s (zM hs0);(repeat' ((first|(apply BR<;>intro hc<;>try (exfalso;omega))|apply CB|(refine CY (by assumption) ?_ rfl ?_;omega)|apply BA)<;>conv=>whnf));rw[hsl];refine GU (enc:=eO) none w rfl rfl (by omega) ?_;(conv=>whnf);(repeat' ((first|(apply CE;omega)|fail)<;>conv=>whnf));unfold B1 EI;refine ⟨by simp,by simp;omega,?_⟩;(conv=>whnf);rw[show 0+((u:Int)).toNat=u by omega,<-KS,nP _ _ r1 hu];(repeat' ((first|(apply CJ;omega)|fail)<;>conv=>whnf));exact C7 [] (uh (u+1) (by omega) (by omega))
  have eu:u=n:=by omega
  subst eu;clear uh;obtain ⟨y,hy⟩ : ∃ y:Nat->List Rat,y=λ c'=>(HK (u+c') l m 0).map (· / l):=⟨_,rfl⟩
  have hyl : ∀ c',(y c').length=u:=λ c'=>by rw[hy,List.length_map,UW];exact hml
  have hRl:(VI y u w).length=u:=by simp [VI]
  have hRat : ∀ e,e<u->(VI y u w)[e]? = some ((List.range w).map λ c'=>(y c').getD e 0):=λ e he=>by simp [VI,he]
  have hRw : ∀ r∈VI y u w,r.length=w:=λ r hr=>by
   obtain ⟨i,_,rfl⟩:=List.mem_map.1 hr;simp
  rw[show List.replicate u (some (3,List.map eO (FU [] w)))++List.replicate (u-u) none=C1 3 eO (ot (VI y u w) w 0 0) by rw[Lw,hRl];simp [C1]];obtain ⟨s0,hs0⟩ : ∃ s,b[0]? = some s:=⟨_,zE (by omega)⟩;have hs0':b[(0:Int).toNat]? = some s0:=hs0;have hs0l:=hbw s0 (zM hs0);generalize hRg:VI y u w=R at hRl hRat hRw ⊢;(repeat' ((first|(apply BR<;>intro hc<;>try (exfalso;omega))|apply CB|(refine CY (by assumption) ?_ rfl ?_;omega)|apply BA)<;>conv=>whnf));rw[hs0l];refine DG (λ c=>w-c) (λ(c:Nat)=>c<=w) (λ c=>[(78,.int .i64 c)]) (λ c=>[(58,58,.mx (C1 3 eO (ot R w c 0)))]) [] [] 0 (by (conv=>whnf);exact ⟨rfl,rfl,rfl⟩) (by omega) ?_;intro c' r2 ch;by_cases hc2:c'<w
  ·have hCol:=AhF N true true m u (u+w) (u+c') (6^u*K0) l hml hmw (by omega) (by omega) (by omega) (by omega) hdg hms hbl0 (by omega)
   have hbs:=fX (c:=u+c') (n:=u) hbl0 m 0 (by omega) hms;have hxl:=UW (u+c') l m 0;have hyc : ∀ (e:Nat) (x:Rat),(HK (u+c') l m 0)[e]? = some x->(y c').getD e 0=x/l:=λ e x hx=>by
    rw[hy,List.getD_eq_getElem?_getD,List.getElem?_map,hx];rfl
   rw[hml]at hbs hxl;rw[Int.natCast_add]at hCol;generalize HK (u+c') l m 0=xs at hCol hbs hxl hyc;(repeat' ((first|(apply BR<;>intro hc<;>try (exfalso;omega))|(apply CJ;omega)|apply BA)<;>conv=>whnf));refine N1 (λ_=>rfl) rfl (by omega) ?_;(conv=>whnf);(repeat' ((first|apply CB|refine BH (hCol) ?_)<;>conv=>whnf));refine DG (λ f=>u-f) (λ(f:Nat)=>f<=u) (λ f=>[(88,.int .i64 f)]) (λ f=>[(58,58,.mx (C1 3 eO (ot R w c' f)))]) [] [] 0 (by (conv=>whnf);exact ⟨rfl,rfl,rfl⟩) (by omega) ?_;intro f r5 fh;by_cases hf2:f<u
   ·obtain ⟨x,hx⟩ : ∃ x,xs[f]? = some x:=⟨_,zE (by omega)⟩
    have hx':xs[(f:Int).toNat]? = some x:=hx;have bx:=hbs.at hx;have hD:=gZ N.toRatGLib bx hbl0 (by omega) (by omega) hl0;have hPr:=hRat f hf2;have hmc:((List.range w).map λ c'=>(y c').getD f 0)[c']? = some (x/l):=by rw[List.getElem?_map,List.getElem?_range hc2,Option.map_some,hyc f x hx]
    have hmlw:((List.range w).map λ c'=>(y c').getD f 0).length=w:=by simp
    generalize ((List.range w).map λ c'=>(y c').getD f 0)=row at hPr hmc hmlw;have hoa:=dL (n:=w) (j:=c') (i:=f) hPr;rw[if_neg (by omega)]at hoa;have hos:=Lv (n:=w) (j:=c') hPr;have hol:=aC R w c' f;have hlf:=JO (l:=row.take c') (m:=w) (by rw[List.length_take];omega);have hst:=KU (l:=row.take c') (m:=w) (x:=x/l) (by rw[List.length_take];omega);rw[List.length_take,Nat.min_eq_left (by omega),<-LE hmc]at hst;generalize ot R w c' f=O at *;(repeat' ((first|(apply BR<;>intro hc<;>try (exfalso;omega))|(apply CE;omega)|(refine CY (by assumption) ?_ rfl ?_;omega)|(refine HJ ?_ (λ r hr => ?_);omega)|apply BA|refine BH (hD) ?_)<;>conv=>whnf));cases hoa.symm.trans hr;skip;have hlf2:=JO (l:=row.take (c'+1)) (m:=w) (by rw[List.length_take];omega);refine CE (by rw[List.length_map];omega) ?_;(conv=>whnf);(repeat' ((first|refine H8 (by assumption) ?_|fail)<;>conv=>whnf));refine G8 (enc:=eO) (some (x/l)) rfl (λ e=>by cases e<;>rfl) (by omega) ?_;(conv=>whnf);rw[hst];refine fG (by omega) ?_;rw[hos];(conv=>whnf);(repeat' ((first|(apply CJ;omega)|fail)<;>conv=>whnf));exact C7 [] (fh (f+1) (by omega) (by omega))
   have ef:f=u:=by omega
   clear fh;have hnx:=Lu R w c';rw[hRl]at hnx;rw[ef,hnx];(repeat' ((first|(apply BR<;>intro hc<;>try (exfalso;omega))|(apply CJ;omega)|apply BA)<;>conv=>whnf));exact C7 [] (ch (c'+1) (by omega) (by omega))
  have ec:c'=w:=by omega
  clear ch;rw[ec,Lt hRw];(repeat' ((first|(apply BR<;>intro hc<;>try (exfalso;omega))|apply BA)<;>conv=>whnf));refine ⟨.tup [.sl false (eM R),.int .i64 0],?_,Or.inr ⟨hns,y,by rw[<-hRg],λ c2 hc2=>⟨hyl c2,?_,λ i r s h1 h2=>by rw[hy];exact hfac c2 hc2 i r s h1 h2⟩⟩⟩
  ·(conv=>whnf)
   refine N1 (λ_=>rfl) rfl (by omega) ?_;(conv=>whnf);exact CK rfl (T4 R 0)
  ·rw[hy]
   intro z hz;obtain ⟨x,hx,rfl⟩:=List.mem_map.1 hz;have hbs:=fX (c:=u+c2) (n:=u) hbl0 m 0 (by omega) hms;rw[hml]at hbs;exact ((hbs x hx).divL hbl0).le (by omega)
theorem AiA (N:MatGLib L) (q q1 q2 q3:Bool) (a b:List (List Rat)) (n w k:Nat) (hal:a.length=n) (haw : ∀ r∈a,r.length=n) (hbl:b.length=n) (hbw : ∀ r∈b,r.length=w) (hn:1<=n/\n<=52) (hw:1<=w/\w<=52) (hk:1<=k) (hab:Ms k a) (hbb:Ms k b)
  (hB:6^n*(3^(n+w)*k)<=1000000000000) (hC:HR (6^n*(3^(n+w)*k)) n n<=1000000000000) {B0:Nat} (hB0:HR (6^n*(3^(n+w)*k)) n n+6^n*(3^(n+w)*k)<=B0) :
  ∃ v,Ev L 235 [.sl q (FE q1 a),.sl q2 (FE q3 b)] v/\((¬ NS n a/\v = .tup [.sl false [],.int .i64 11])\/(NS n a /\ ∃ y:Nat->List Rat,v = .tup [.sl false (eM (VI y n w)),.int .i64 0] /\
   ∀ c,c<w->(y c).length=n/\Bs B0 (y c) /\ ∀ (i:Nat) (r s:List Rat),a[i]? = some r->b[i]? = some s->CI r (y c)=s.getD c 0)):=by
 obtain ⟨hjw,hjb⟩:=Kk haw hbw hab hbb;exact AiB N q q1 q2 q3 a b n w k (3^(n+w)*k) hal haw hbl hbw hn hw (rY k (n+w)) (Nat.mul_pos (Nat.pow_pos (by omega)) hk) hab hbb (sC hk hjw hjb) (sB hk hjw hjb) hB hC hB0
def UF (x:Rat):Option (Nat × List (List AV)):=some (3,[eQ x])
theorem Ahq (N:MatGLib L) (q q1:Bool) (a:List (List Rat)) (n k:Nat) (hal:a.length=n) (haw : ∀ r∈a,r.length=n) (hn:1<=n/\n<=52) (hk:1<=k) (hab:Ms k a)
  (hB:6^n*(3^(n+n)*k)<=1000000000000) (hC:HR (6^n*(3^(n+n)*k)) n n<=1000000000000) {B0:Nat} (hB0:HR (6^n*(3^(n+n)*k)) n n+6^n*(3^(n+n)*k)<=B0) :
  ∃ v,Ev L 238 [.sl q (FE q1 a)] v/\((¬ NS n a/\v = .tup [.sl false [],.int .i64 11])\/(NS n a /\ ∃ w:List (List Rat),v = .tup [.sl false (eM w),.int .i64 0] /\
   w.length=n/\(∀ r∈w,r.length=n)/\Ms B0 w/\EA a w n=FJ n/\EA w a n=FJ n)):=by
 have hV:=nA N q q1 a n n hal haw hn hn;have hI:=AhQ N n hn;obtain ⟨r0,hr0⟩ : ∃ r,a[0]? = some r:=⟨_,zE (by omega)⟩;have hr0':a[(0:Int).toNat]? = some r0:=hr0;have hl0:=haw r0 (zM hr0);have hidl:(FJ n).length=n:=by simp [FJ]
 have hidw : ∀ r∈FJ n,r.length=n:=(Sq.id n).r;have hidb:Ms k (FJ n):=λ r hr=>by
  obtain ⟨i,_,rfl⟩:=List.mem_map.1 hr;intro z hz;obtain ⟨j,_,rfl⟩:=List.mem_map.1 hz;by_cases e:((j:Nat):Int)=(i:Int)
  ·rw[if_pos e];exact (Bt.one 0).le (Nat.zero_le k)
  ·first|(rw[if_neg e];exact Bt.zero _)|(rw[if_neg (Ne.symm e)];exact Bt.zero _)
 obtain ⟨v,hS,hor⟩:=AiA N q q1 false false a (FJ n) n n k hal haw hidl hidw hn hn hk hab hidb hB hC hB0;refine ⟨v,?_,?_⟩
 ·have hcl:CT v:=by
   rcases hor with ⟨_,rfl⟩|⟨_,y,rfl,_⟩
   ·exact T4 [] 11
   ·exact T4 _ 0
  refine Ev.x N.PF rfl rfl ?_;rcases hor with ⟨_,rfl⟩|⟨_,y,rfl,_⟩
  ·(repeat' ((first|(apply BR<;>intro hc<;>try (exfalso;omega))|apply CB|(refine CY (by assumption) ?_ rfl ?_;omega)|apply BA|refine BH (hV) ?_)<;>conv=>whnf))
   rw[hal];(repeat' ((first|refine BH (hI) ?_|refine BH (hS) ?_)<;>conv=>whnf));exact CK rfl hcl
  ·(repeat' ((first|(apply BR<;>intro hc<;>try (exfalso;omega))|apply CB|(refine CY (by assumption) ?_ rfl ?_;omega)|apply BA|refine BH (hV) ?_)<;>conv=>whnf))
   rw[hal];(repeat' ((first|refine BH (hI) ?_|refine BH (hS) ?_)<;>conv=>whnf));exact CK rfl hcl
 ·rcases hor with ⟨hns,rfl⟩|⟨hns,y,rfl,hy⟩
  ·exact Or.inl ⟨hns,rfl⟩
  ·have hsol:EA a (WK y n) n=FJ n:=AjL hal (λ c hc=>(hy c hc).1) λ c i r hc hr=>by
    obtain ⟨s,hs⟩ : ∃ s,(FJ n)[i]? = some s:=⟨_,zE (by have:=(zS hr).1;omega)⟩;rw[(hy c hc).2.2 i r s hr hs];have hin:i<n:=by have:=(zS hr).1;omega
    obtain rfl:FP n i=s:=by simpa [FJ,hin] using hs
    rw[rW,if_pos hc]
   have hcl:(WK y n).length=n:=by simp [WK]
   have hcr : ∀ r∈WK y n,r.length=n:=λ r hr=>by
    obtain ⟨i,_,rfl⟩:=List.mem_map.1 hr;simp
   refine Or.inr ⟨hns,WK y n,rfl,hcl,hcr,λ r hr z hz => ?_,hsol,AjE ⟨hal,haw⟩ ⟨hcl,hcr⟩ hns hsol⟩;obtain ⟨i,hi,rfl⟩:=List.mem_map.1 hr;obtain ⟨c,hc,rfl⟩:=List.mem_map.1 hz;have:=(hy c (List.mem_range.1 hc)).2.1;have hl:=(hy c (List.mem_range.1 hc)).1;exact this.at (O2 (by rw[hl];exact List.mem_range.1 hi))
end Go.Eng

namespace Go.Eng
def NP (a:List (List Rat)) (w:Nat):List (List Rat):=(List.range w).map (ED a)
theorem Oh (a:List (List Rat)) (w:Nat):(NP a w).length=w:=by simp [NP]
theorem Og {a:List (List Rat)} {w i:Nat} (h:i<w):(NP a w)[i]? = some (ED a i):=by
 simp only[NP,List.getElem?_map,List.getElem?_range h,Option.map_some]
theorem AlJ {a:List (List Rat)} {w n:Nat} (h:a.length=n) : ∀ r∈NP a w,r.length=n:=λ r hr=>by
 obtain ⟨i,_,rfl⟩:=List.mem_map.1 hr;rw[bZ];exact h
end Go.Eng

namespace Go.Eng
open F
attribute [local irreducible] AH BJ B1 BD EZ CF CG CR CU DW B5 DT EG F7 DM CQ DR EE AR CW BW pw DC C9 EI ET E1 E7 EW D4 E8
variable {L:Lib}
set_option maxHeartbeats 16000000
theorem sW {R:List (Option (Nat × List (List AV)))} {e:Nat} {r:Option (Nat × List (List AV))} {K:Option (Nat × List (List AV))->Prop} (h:R[e]? = some r) (hk:K r):DC R e K:=by
 unfold DC;exact ⟨r,h,hk⟩
theorem Ig {T:List (List Rat)} {n i:Nat} (hl:T.length=n) (hi:i<n):(mz T n i)[i]? = some none:=by
 have hl2:(C1 3 eQ (T.take i)).length=i:=by simp only[C1,List.length_map,List.length_take];omega
 have:=zU (z:=(none:Option (Nat × List (List AV)))) (l:=C1 3 eQ (T.take i)) (m:=n) (by omega)
 rw[hl2]at this;exact this
theorem AhS (N:MatHLib L) (q q':Bool) (a:List (List Rat)) (n w k:Nat) (hal:a.length=n) (har : ∀ r∈a,r.length=w) (hn:1<=n/\n<=52) (hw:1<=w/\w<=52) (hab:Ms k a) (hk:k<2199023255552):Ev L 246 [.sl q (FE q' a)] (.sl false (eM (NP a w))):=by
 have hat : ∀ i,i<w->(NP a w)[i]? = some (ED a i):=λ i h=>Og h
 have htl:=Oh a w;have hcol : ∀ i,(ED a i).length=n:=λ i=>by simp [ED,hal]
 have hx : ∀ i j,i<w->j<n -> ∃ r x,a[j]? = some r/\r[i]? = some x/\(ED a i)[j]? = some x/\r.length=w/\Bt k x:=λ i j h1 h2=>by
  obtain ⟨r,hr⟩ : ∃ r,a[j]? = some r:=⟨_,zE (by omega)⟩;have hrl:=har r (zM hr);obtain ⟨x,hx⟩ : ∃ x,r[i]? = some x:=⟨_,zE (by omega)⟩;exact ⟨r,x,hr,hx,by rw[ED,List.getElem?_map,hr,Option.map_some,List.getD_eq_getElem?_getD,hx];rfl,hrl,(hab.at hr).at hx⟩
 obtain ⟨r0,hr0⟩ : ∃ r,a[0]? = some r:=⟨_,zE (by omega)⟩;have hr0':a[(0:Int).toNat]? = some r0:=hr0;have hl0:=har r0 (zM hr0);generalize hT:NP a w=T at *;refine Ev.x N.PL rfl rfl ?_;(repeat' ((first|apply CB|(refine CY (by assumption) ?_ rfl ?_;omega)|apply BA)<;>conv=>whnf));unfold E1;refine ⟨⟨by omega,by omega,by simp only[FR];omega,by omega⟩,?_⟩;rw[Int.toNat_natCast,hl0];(conv=>whnf);skip;refine DG (λ i=>w-i) (λ(i:Nat)=>i<=w) (λ i=>[(13,.int .i64 i)]) (λ i=>[(10,10,.mx (mz T w i))]) [] [] 0 (by first|exact (by (conv=>whnf);exact ⟨rfl,rfl,rfl⟩)|(rw[<-YF T];exact (by (conv=>whnf);exact ⟨rfl,rfl,rfl⟩))) (by omega) ?_;intro i p1 ih;have hzl:=YD (Q:=T) p1;by_cases hi:i<w
 ·have hst:=YE (hat i hi) hi
  have hci:=hcol i;have hnone:=Ig htl hi;obtain ⟨r,x,e1,e2,e3,hrl,hxb⟩:=hx i 0 hi (by omega);have e1':a[(0:Int).toNat]? = some r:=e1;have e2':r[(i:Int).toNat]? = some x:=e2;have hTr:=XW N.toRatGLib hxb hk;have hc1:(ED a i).take 1=[x]:=by rw[List.take_add_one,e3];rfl
  generalize mz T w i=R0 at *;(repeat' ((first|(apply BR<;>intro hc<;>try (exfalso;omega))|apply CB|apply BA)<;>conv=>whnf));refine W4 ?_;(repeat' ((first|(apply BR<;>intro hc<;>try (exfalso;omega))|(apply CE;omega)|apply BA)<;>conv=>whnf));refine sW (r:=none) (by rw[Nat.zero_add,Int.toNat_natCast];exact hnone) ?_;(conv=>whnf);(repeat' ((first|(refine CY (by assumption) ?_ rfl ?_;omega)|apply G0|refine BH (hTr) ?_)<;>conv=>whnf));refine ZA (enc:=eQ) x rfl rfl (by omega) ?_;(conv=>whnf);(repeat' ((first|(apply CE;omega)|fail)<;>conv=>whnf));refine CE rfl ?_;refine OV (i:=i) (by omega) (by omega) ?_;(conv=>whnf);(repeat' ((first|(apply CJ;omega)|fail)<;>conv=>whnf));refine DG (λ j=>n-j) (λ(j:Nat)=>1<=j/\j<=n) (λ j=>[(18,.int .i64 j)]) (λ j=>[(10,10,.mx (R0.set i (some (3,((ED a i).take j).map eQ))))]) [] [] 1 (by first|exact (by (conv=>whnf);exact ⟨rfl,rfl,rfl⟩)|(rw[hc1];exact (by (conv=>whnf);exact ⟨rfl,rfl,rfl⟩))) (by omega) ?_;intro j ⟨r1,r2⟩ jh;have htj:((ED a i).take j).length=j:=by rw[List.length_take];omega
  by_cases hj:j<n
  ·obtain ⟨r,x,e1,e2,e3,hrl,hxb⟩:=hx i j hi hj
   have e1':a[(j:Int).toNat]? = some r:=e1;have e2':r[(i:Int).toNat]? = some x:=e2;have hTr:=XW N.toRatGLib hxb hk;have hs:=TI e3;have htj1:((ED a i).take (j+1)).length=j+1:=by rw[List.length_take];omega
   generalize (ED a i).take j=W at *;(repeat' ((first|(apply BR<;>intro hc<;>try (exfalso;omega))|(apply CE;omega)|apply BA)<;>conv=>whnf));refine MW (by omega) (by omega) ?_;(conv=>whnf);(repeat' ((first|(refine CY (by assumption) ?_ rfl ?_;omega)|apply G0|refine BH (hTr) ?_)<;>conv=>whnf));refine L3 (by omega) (by omega) ?_;(conv=>whnf);refine HP (enc:=eQ) x rfl (by rw[List.length_map]) rfl (by omega) (by omega) ?_;intro s' v;rw[<-hs,htj1];(conv=>whnf);(repeat' ((first|(apply CE;omega)|fail)<;>conv=>whnf));refine CE ⟨rfl,by rw[List.length_map];omega⟩ ?_;refine OV (i:=i) (by omega) (by rw[List.length_set,List.length_set];omega) ?_;rw[show 0+((i:Int)).toNat=i by omega,List.set_set,List.set_set];(conv=>whnf);(repeat' ((first|(apply CJ;omega)|fail)<;>conv=>whnf));exact C7 [] (jh (j+1) (by omega) (by omega))
  have ej:j=n:=by omega
  clear jh;rw[ej,List.take_of_length_le (by omega),hst];(repeat' ((first|(apply BR<;>intro hc<;>try (exfalso;omega))|(apply CJ;omega)|apply BA)<;>conv=>whnf));exact C7 [] (ih (i+1) (by omega) (by omega))
 have ei:i=w:=by omega
 clear ih;rw[ei,X9 (by omega)];(repeat' ((first|(apply BR<;>intro hc<;>try (exfalso;omega))|apply BA)<;>conv=>whnf));refine N1 (λ_=>rfl) rfl (by omega) ?_;(conv=>whnf);exact CK rfl (uP T)
end Go.Eng
