/-
  State-space forms (layer 27), the program: zeros, at, degree, Valid, Controller.
-/
import Derived.Test.YtplhdlbnneoobaaGreatB10
import Derived.Test.YtplhdlbnneoobaaGreatB9
import Derived.Test.YtplhdlbnneoobaaGreatB1
import Derived.Test.YtplhdlbnneoobaaGreatB4
import Derived.Test.YtplhdlbnneoobaaGreatB7
import Derived.Test.YtplhdlbnneoobaaGreatB3
import Derived.Test.YtplhdlbnneoobaaGreatB5
import Derived.ProofKit
import Derived.OpenShut
import Derived.ChangeOld
import Derived.WalkKit
import Derived.WideShapes
import Derived.ChangeArms
set_option linter.unusedSimpArgs false
set_option linter.unusedVariables false
set_option linter.unnecessarySimpa false
namespace Go.c4
open F
attribute [local irreducible] AA AF AU AC B6 AQ AX A9 A4 BS AP BR B0 C2 BN A0 BK B2 AB A5 AJ pw CG B4 CM CZ CU CP CN BJ B9
variable {L:Lib}
set_option maxHeartbeats 16000000
theorem Lr (N:o0 L) (m:Nat) (hm:m<=65536):NA L 206 [.int .i64 (m:Int)] 3 ((List.replicate m (0:Rat)).map eQ):=by
 have hO:=HL N.toa7 0 (by omega);refine NA.x N.MG rfl rfl ?_;(repeat' (apply AE<;>conv=>whnf))
 refine ET (enc:=eO) none m rfl rfl (by omega) ?_;(conv=>whnf)
 skip
 refine CK (λ i=>m-i) (λ(i:Nat)=>i<=m) (λ i=>[(8,.int .i64 i)]) (λ i=>[(6,6,.rw 3 ((FB (List.replicate i 0) m).map eO))]) [] [] 0 (by first|exact (by (conv=>whnf);exact ⟨rfl,rfl,rfl⟩)|(rw[<-OM];exact (by (conv=>whnf);exact ⟨rfl,rfl,rfl⟩))) (by omega) ?_;intro i p1 ih;by_cases hi:i<m
 ·have hl:=OL (l:=List.replicate i (0:Rat)) (m:=m) (by simp;omega)
  have hs:=ON (l:=List.replicate i (0:Rat)) (m:=m) (x:=0) (by simp;omega);rw[List.length_replicate]at hs;(repeat' ((first|(apply AG<;>intro hc<;>try (exfalso;omega))|(apply BA;omega)|apply AE|refine AD (hO) ?_)<;>conv=>whnf))
  refine I3 (enc:=eO) (some 0) rfl (λ e=>by cases e<;>rfl) (by omega) ?_;(conv=>whnf)
  (repeat' ((first|(apply AY;omega)|fail)<;>conv=>whnf))
  rw[hs];rw[show List.replicate i (0:Rat)++[0]=List.replicate (i+1) 0 by rw[List.replicate_succ']];exact BQ [] (ih (i+1) (by omega) (by omega))
 obtain rfl:i=m:=by omega
 clear ih;rw[OK (by simp)];(repeat' ((first|(apply AG<;>intro hc<;>try (exfalso;omega))|apply AE)<;>conv=>whnf))
 exact ⟨rfl,rfl,by simp,rfl,IG _⟩
theorem YW (N:o0 L) (q:Bool) (l:List Rat) (i:Int) (k:Nat) (h0:0<=i) (hl:Bs k l) (hk:k<2199023255552) (hn:l.length<=1000000):Ev L 205 [.sl q (l.map eQ),.int .i64 i] (.agg (eQ (l.getD i.toNat 0))):=by
 have hO:=HL N.toa7 0 (by omega);refine Ev.x N.ME rfl rfl ?_;by_cases hi:i<l.length
 ·obtain ⟨x,hx⟩ : ∃ x,l[i.toNat]? = some x:=⟨_,zE (by omega)⟩
  have hT:=YX N.toa7 (hl.at hx) hk;rw[ZC hx];(repeat' ((first|(apply AG<;>intro hc<;>try (exfalso;omega))|apply AR|(refine BG (by assumption) ?_ rfl ?_;omega)|apply AE|refine AD (hT) ?_)<;>conv=>whnf))
  exact AW rfl (C4 _)
 ·rw[Ma (l:=l) (by omega)]
  (repeat' ((first|(apply AG<;>intro hc<;>try (exfalso;omega))|apply AR|apply AE|refine AD (hO) ?_)<;>conv=>whnf))
  exact AW rfl (C4 _)
theorem jH (N:o0 L) (q:Bool) (l:List Rat) (k:Nat) (ht:M7 l=l) (hl:Bs k l) (hk:k<2199023255552) (hn:l.length<=1000000):Ev L 204 [.sl q (l.map eQ)] (.int .i64 ((l.length-1:Nat):Int)):=by
 refine Ev.x N.MF rfl rfl ?_;(repeat' ((first|(apply B1;omega)|apply AR|apply AE)<;>conv=>whnf))
 refine F9 ?_;by_cases h2:l.length<=1
 ·(repeat' ((first|(apply AG<;>intro hc<;>try (exfalso;omega))|apply AE)<;>conv=>whnf))
  exact CY (by omega)
 ·obtain ⟨x,hx⟩ : ∃ x,l[l.length-1]? = some x:=⟨_,zE (by omega)⟩
  have jf:l[((l.length:Int)-1).toNat]? = some x:=by rw[show ((l.length:Int)-1).toNat=l.length-1 by omega];exact hx
  have Iu:=Rg ht (by omega);rw[ZC hx]at Iu;have hS:=QZ N.toa7 (hl.at hx) hk;have hs:=N0 (x:=x);generalize o5 x.num=s at *;have gu:s≠0:=λ h=>Iu (hs.1 h)
  (repeat' ((first|(apply AG<;>intro hc<;>try (exfalso;omega))|(refine BG (by assumption) ?_ rfl ?_;omega)|apply AE|refine AD (hS) ?_)<;>conv=>whnf))
  exact CY (by omega)
theorem Lo (N:o0 L) (q1 q2:Bool) (B A:List Rat) (k:Nat) (hB:Bs k B) (hA:Bs k A) (hk:k<2199023255552) (lB:B.length<=49) (lA:A.length<=49) (h0:A[0]? = some 1):Ev L 201 [.agg [.sl q1 (B.map eQ),.sl q2 (A.map eQ)]] (.bool true):=by
 have c1:=SC B B.length;have c2:=SC A A.length;have mc:=iX N q1 B k hB hk (by omega);have me:=iX N q2 A k hA hk (by omega);have hO:=HL N.toa7 1 (by omega);have hC:=YJ N (Bt.one 1) (Bt.one 1) (by omega) (by omega);rw[aX.2 rfl]at hC;have Ya:0<A.length:=(zS h0).1;have qy:A[(0:Int).toNat]? = some 1:=h0;generalize G4 B B.length=d1 at *;generalize G4 A A.length=d2 at *;refine Ev.x N.MA rfl rfl ?_;(repeat' ((first|(apply AG<;>intro hc<;>try (exfalso;omega))|apply AR|(refine BG (by assumption) ?_ rfl ?_;omega)|apply AE|refine AD (mc) ?_|refine AD (me) ?_|refine AD (hO) ?_|refine AD (hC) ?_)<;>conv=>whnf))
 exact JG rfl
theorem uY (B A:List Rat) (m:Nat):(D8 B A (m+1)).a.take 1=[(List.range (m+1)).map λ k => -(A.getD (k+1) 0)]:=by
 simp [D8,List.range_succ_eq_map]
theorem uZ {B A:List Rat} {n i:Nat} (h1:1<=i) (hi:i<n):(D8 B A n).a[i]? = some (HD n ((i-1:Nat):Int)):=by
 simp only[D8,List.getElem?_map,List.getElem?_range hi,Option.map_some];rw[if_neg (by omega)]
theorem fK {B A:List Rat} {n i:Nat} (hi:i<n):(D8 B A n).c[i]? = some (B.getD (i+1) 0-B.getD 0 0*A.getD (i+1) 0):=by
 simp only[D8,List.getElem?_map,List.getElem?_range hi,Option.map_some]
theorem vA (B A:List Rat) (m:Nat):(D8 B A (m+1)).c.take 1=[B.getD 1 0-B.getD 0 0*A.getD 1 0]:=by
 rw[List.take_add_one,fK (by omega)];rfl
theorem fJ (B A:List Rat) (n:Nat):(D8 B A n).a.length=n:=by simp [D8]
theorem fO (B A:List Rat) (n:Nat):(D8 B A n).c.length=n:=by simp [D8]
theorem HC {α:Type} {l:List α} {i:Nat} {x:α} (h:l[i]? = some x):l.take (i+1)=l.take i++[x]:=by
 rw[List.take_add_one,h];rfl
theorem uE (S:CR) (e:Int):A1 (.j5 [.agg (eS S),.int .i64 e]):=by
 have:=R8 S
 simp only[A1,CQ,true_and,and_true]at this ⊢;exact this
theorem yN (N:o0 L) (w1 w2:Bool) (B A:List Rat) (n k:Nat) (hB:M7 B=B) (hA:M7 A=A) (bB:Bs k B) (bA:Bs k A) (lB:B.length<=17) (lA:A.length<=17) (h0:A[0]? = some 1) (hn:max (B.length-1) (A.length-1)=n) (hk:k<=1000000) :
  Ev L 207 [.agg [.sl w1 (B.map eQ),.sl w2 (A.map eQ)]] (.j5 [.agg (eS (D8 B A n)),.int .i64 0]):=by
 have hV:=Lo N w1 w2 B A k bB bA (by omega) (by omega) (by omega) h0;have mc:=jH N w1 B k hB bB (by omega) (by omega);have me:=jH N w2 A k hA bA (by omega) (by omega);have hO:=HL N.toa7 1 (by omega);have oa:=YW N w1 B 0 k (by omega) bB (by omega) (by omega);rw[show B.getD (0:Int).toNat 0=B.getD 0 0 from rfl]at oa;have hZ:=Lr N n (by omega);have Gr:Bt k (B.getD 0 0):=MZ bB 0;have wx : ∀ i:Nat,Ev L 205 [.sl w1 (B.map eQ),.int .i64 ((i:Int)+1)] (.agg (eQ (B.getD (i+1) 0)))/\Ev L 205 [.sl w2 (A.map eQ),.int .i64 ((i:Int)+1)] (.agg (eQ (A.getD (i+1) 0))) /\
   Ev L 99 [.agg (eQ (B.getD 0 0)),.agg (eQ (A.getD (i+1) 0))] (.agg (eQ (B.getD 0 0*A.getD (i+1) 0)))/\Ev L 150 [.agg (eQ (B.getD (i+1) 0)),.agg (eQ (B.getD 0 0*A.getD (i+1) 0))] (.agg (eQ (B.getD (i+1) 0-B.getD 0 0*A.getD (i+1) 0))) /\
   Ev L 199 [.agg (eQ (A.getD (i+1) 0))] (.agg (eQ (-(A.getD (i+1) 0)))):=λ i=>by
  have e1:=YW N w1 B ((i:Int)+1) k (by omega) bB (by omega) (by omega);have e2:=YW N w2 A ((i:Int)+1) k (by omega) bA (by omega) (by omega);rw[show ((i:Int)+1).toNat=i+1 by omega]at e1 e2;exact ⟨e1,e2,I7 N.toa7 Gr (MZ bA _) (by omega) (by omega),Lt N.toaf (MZ bB _) (Gr.mul (MZ bA _)) (by omega) (by omega),zJ N (MZ bA _) (by omega)⟩
 have hd:(D8 B A n).d=B.getD 0 0:=rfl;have dw:=fJ B A n;have n6:=fO B A n;have jy:eS (D8 B A n)=[.sl false ((D8 B A n).a.map λ r=>[AV.sl false (r.map eQ)]),.sl false ((HD n 0).map eQ),.sl false ((D8 B A n).c.map eQ)]++eQ (B.getD 0 0):=rfl;have ae:=uE (D8 B A n) 0;rw[jy]at ae ⊢;have Hn : ∀ i,1<=i->i<n->(D8 B A n).a[i]? = some (HD n ((i-1:Nat):Int)):=λ i h1 h2=>uZ h1 h2
 have zd : ∀ i,i<n->(D8 B A n).c[i]? = some (B.getD (i+1) 0-B.getD 0 0*A.getD (i+1) 0):=λ i h=>fK h
 have Bw:0<n->(D8 B A n).a.take 1=[(List.range n).map λ k => -(A.getD (k+1) 0)]:=λ h=>by
  obtain ⟨m,rfl⟩ : ∃ m,n=m+1:=⟨n-1,by omega⟩;exact uY B A m
 have sn:0<n->(D8 B A n).c.take 1=[B.getD (0+1) 0-B.getD 0 0*A.getD (0+1) 0]:=λ h=>by
  obtain ⟨m,rfl⟩ : ∃ m,n=m+1:=⟨n-1,by omega⟩;exact vA B A m
 have ik : ∀ j,j<n->((List.range n).map λ k => -(A.getD (k+1) 0))[j]? = some (-(A.getD (j+1) 0)):=λ j h=>by
  rw[List.getElem?_map,List.getElem?_range h];rfl
 have Ak:((List.range n).map λ k => -(A.getD (k+1) 0)).length=n:=by simp
 have er : ∀ j,(HD n j).length=n:=λ j=>cF n j
 generalize (D8 B A n).a=a at *;generalize (D8 B A n).c=c at *;generalize (List.range n).map (λ k => -(A.getD (k+1) 0))=r0 at *;generalize B.getD 0 0=b0 at *;rcases Nat.lt_or_ge (B.length-1) (A.length-1) with l6|ig
 ·rw[show A.length-1=n by omega]at me l6
  refine Ev.x N.IV rfl rfl ?_;(repeat' ((first|(apply AG<;>intro hc<;>try (exfalso;omega))|apply AE|refine AD (hV) ?_|refine AD (mc) ?_|refine AD (me) ?_|refine AD (oa) ?_)<;>conv=>whnf))
  refine ML (enc:=eQ) n hZ (by simp) ?_;(conv=>whnf)
  by_cases te:n=0
  ·skip
   exact absurd l6 (by omega)
  ·(repeat' ((first|(apply AG<;>intro hc<;>try (exfalso;omega))|(apply BA;omega)|refine AD (hO) ?_)<;>conv=>whnf))
   refine O8 (enc:=eQ) 0 1 rfl rfl (λ_=>rfl) (by simp;omega) ?_;(conv=>whnf)
   rw[show (List.replicate n (0:Rat)).set 0 1=HD n 0 from WQ n 0];skip
   refine F9 ?_;(repeat' ((first|(apply AG<;>intro hc<;>try (exfalso;omega))|apply AE)<;>conv=>whnf))
   refine ML (enc:=eQ) n hZ (by simp) ?_;(conv=>whnf)
   (repeat' ((first|(apply AG<;>intro hc<;>try (exfalso;omega))|fail)<;>conv=>whnf))
   refine CK (λ j=>n-j) (λ(j:Nat)=>j<=n) (λ j=>[(50,.int .i64 j)]) (λ j=>[(41,41,.rw 3 ((cz r0 n j).map eQ))]) [] [] 0 (by first|exact (by (conv=>whnf);exact ⟨rfl,rfl,rfl⟩)|(rw[fW];exact (by (conv=>whnf);exact ⟨rfl,rfl,rfl⟩))) (by omega) ?_;intro j p1 ih;have og:=fS (row:=r0) p1;by_cases hj:j<n
   ·have j9:=fU (ik j hj) hj
    obtain ⟨f1,f2,f3,f4,f5⟩:=wx j;(repeat' ((first|(apply AG<;>intro hc<;>try (exfalso;omega))|(apply BA;omega)|(apply AY;omega)|apply AE|refine AD (f2) ?_|refine AD (f5) ?_)<;>conv=>whnf))
    refine I3 (enc:=eQ) (-(A.getD (j+1) 0)) rfl (λ_=>rfl) (by omega) ?_;(conv=>whnf)
    (repeat' ((first|(apply AY;omega)|fail)<;>conv=>whnf))
    rw[j9];exact BQ [] (ih (j+1) (by omega) (by omega))
   obtain rfl:j=n:=by omega
   clear ih;rw[fR Ak];obtain ⟨f1,f2,f3,f4,f5⟩:=wx 0;(repeat' ((first|(apply AG<;>intro hc<;>try (exfalso;omega))|apply AE)<;>conv=>whnf))
   refine BA ⟨by rw[List.length_map];omega,by omega⟩ ?_;(conv=>whnf)
   (repeat' ((first|(apply AY;omega)|apply EN|refine AD (oa) ?_|refine AD (f1) ?_|refine AD (f2) ?_|refine AD (f3) ?_|refine AD (f4) ?_)<;>conv=>whnf))
   refine RO (enc:=eQ) (B.getD (0+1) 0-b0*A.getD (0+1) 0) rfl rfl (by omega) ?_;(conv=>whnf)
   (repeat' ((first|(apply AY;omega)|fail)<;>conv=>whnf))
   refine CK (λ i=>j-i) (λ(i:Nat)=>1<=i/\i<=j) (λ i=>[(37,.int .i64 i)]) (λ i=>[(5,5,.bx ([.row 67 0 1 0 i,.row 28 0 3 0 j,.row 88 0 3 0 i]++eQ b0)),(67,67,.mx (FP 3 eQ (a.take i))),(88,88,.rw 3 ((c.take i).map eQ))]) [] [] 1 (by first|exact (by (conv=>whnf);exact ⟨rfl,rfl,rfl⟩)|(rw[Bw (by omega),sn (by omega)];exact (by (conv=>whnf);exact ⟨rfl,rfl,rfl⟩))) (by omega) ?_;intro i ⟨g1,g2⟩ ih;have ur:(a.take i).length=i:=by rw[List.length_take];omega
   have ux:(c.take i).length=i:=by rw[List.length_take];omega
   by_cases hi:i<j
   ·obtain ⟨f1,f2,f3,f4,f5⟩:=wx i
    have Fl:=HC (Hn i g1 hi);have Fm:=HC (zd i hi);have uv:(a.take (i+1)).length=i+1:=by rw[List.length_take];omega
    have uy:(c.take (i+1)).length=i+1:=by rw[List.length_take];omega
    have Fx:=er ((i-1:Nat):Int);(repeat' ((first|(apply AG<;>intro hc<;>try (exfalso;omega))|apply AE)<;>conv=>whnf))
    refine ML (enc:=eQ) j hZ (by simp) ?_;(conv=>whnf)
    (repeat' ((first|(apply AG<;>intro hc<;>try (exfalso;omega))|(apply BA;omega)|(apply B1;omega)|refine AD (hO) ?_)<;>conv=>whnf))
    refine O8 (enc:=eQ) (i-1) 1 (by omega) rfl (λ_=>rfl) (by simp;omega) ?_;(conv=>whnf)
    rw[WQ];skip
    refine BA (by rw[List.length_map];omega) ?_;refine cP (r:=HD j ((i-1:Nat):Int)) (en:=eQ) ur.symm (by omega) (by omega) ?_;rw[<-Fl,uv];(conv=>whnf)
    (repeat' ((first|(apply AY;omega)|apply EN|refine AD (oa) ?_|refine AD (f1) ?_|refine AD (f2) ?_|refine AD (f3) ?_|refine AD (f4) ?_)<;>conv=>whnf))
    refine FH (enc:=eQ) (B.getD (i+1) 0-b0*A.getD (i+1) 0) rfl ux.symm rfl (by omega) (by omega) ?_;rw[<-Fm,uy];(conv=>whnf)
    (repeat' ((first|(apply AY;omega)|fail)<;>conv=>whnf))
    exact BQ [(67,1000067),(88,1000088)] (ih (i+1) (by omega) (by omega))
   obtain rfl:i=j:=by omega
   clear ih;rw[List.take_of_length_le (Nat.le_of_eq dw),List.take_of_length_le (Nat.le_of_eq n6)]at *;(repeat' ((first|(apply AG<;>intro hc<;>try (exfalso;omega))|apply AE)<;>conv=>whnf))
   refine UG (λ_=>rfl) rfl dw.symm ?_;(conv=>whnf)
   refine DE (enc:=eQ) (λ_=>rfl) rfl (er 0).symm ?_;(conv=>whnf)
   refine DE (enc:=eQ) (λ_=>rfl) rfl n6.symm ?_;(conv=>whnf)
   exact AW rfl ae
 ·rw[show B.length-1=n by omega]at mc ig
  refine Ev.x N.IV rfl rfl ?_;(repeat' ((first|(apply AG<;>intro hc<;>try (exfalso;omega))|apply AE|refine AD (hV) ?_|refine AD (mc) ?_|refine AD (me) ?_|refine AD (oa) ?_)<;>conv=>whnf))
  refine ML (enc:=eQ) n hZ (by simp) ?_;(conv=>whnf)
  by_cases te:n=0
  ·skip
   subst te;(repeat' ((first|(apply AG<;>intro hc<;>try (exfalso;omega))|fail)<;>conv=>whnf))
   refine F9 ?_;(repeat' ((first|(apply AG<;>intro hc<;>try (exfalso;omega))|(refine DE (λ_=>rfl) rfl ?_ ?_;(first|rfl|simp))|apply AE)<;>conv=>whnf))
   rw[List.eq_nil_of_length_eq_zero dw,List.eq_nil_of_length_eq_zero n6]at *;exact AW rfl ae
  ·(repeat' ((first|(apply AG<;>intro hc<;>try (exfalso;omega))|(apply BA;omega)|refine AD (hO) ?_)<;>conv=>whnf))
   refine O8 (enc:=eQ) 0 1 rfl rfl (λ_=>rfl) (by simp;omega) ?_;(conv=>whnf)
   rw[show (List.replicate n (0:Rat)).set 0 1=HD n 0 from WQ n 0];skip
   refine F9 ?_;(repeat' ((first|(apply AG<;>intro hc<;>try (exfalso;omega))|apply AE)<;>conv=>whnf))
   refine ML (enc:=eQ) n hZ (by simp) ?_;(conv=>whnf)
   (repeat' ((first|(apply AG<;>intro hc<;>try (exfalso;omega))|fail)<;>conv=>whnf))
   refine CK (λ j=>n-j) (λ(j:Nat)=>j<=n) (λ j=>[(50,.int .i64 j)]) (λ j=>[(41,41,.rw 3 ((cz r0 n j).map eQ))]) [] [] 0 (by first|exact (by (conv=>whnf);exact ⟨rfl,rfl,rfl⟩)|(rw[fW];exact (by (conv=>whnf);exact ⟨rfl,rfl,rfl⟩))) (by omega) ?_;intro j p1 ih;have og:=fS (row:=r0) p1;by_cases hj:j<n
   ·have j9:=fU (ik j hj) hj
    obtain ⟨f1,f2,f3,f4,f5⟩:=wx j;(repeat' ((first|(apply AG<;>intro hc<;>try (exfalso;omega))|(apply BA;omega)|(apply AY;omega)|apply AE|refine AD (f2) ?_|refine AD (f5) ?_)<;>conv=>whnf))
    refine I3 (enc:=eQ) (-(A.getD (j+1) 0)) rfl (λ_=>rfl) (by omega) ?_;(conv=>whnf)
    (repeat' ((first|(apply AY;omega)|fail)<;>conv=>whnf))
    rw[j9];exact BQ [] (ih (j+1) (by omega) (by omega))
   obtain rfl:j=n:=by omega
   clear ih;rw[fR Ak];obtain ⟨f1,f2,f3,f4,f5⟩:=wx 0;(repeat' ((first|(apply AG<;>intro hc<;>try (exfalso;omega))|apply AE)<;>conv=>whnf))
   refine BA ⟨by rw[List.length_map];omega,by omega⟩ ?_;(conv=>whnf)
   (repeat' ((first|(apply AY;omega)|apply EN|refine AD (oa) ?_|refine AD (f1) ?_|refine AD (f2) ?_|refine AD (f3) ?_|refine AD (f4) ?_)<;>conv=>whnf))
   refine RO (enc:=eQ) (B.getD (0+1) 0-b0*A.getD (0+1) 0) rfl rfl (by omega) ?_;(conv=>whnf)
   (repeat' ((first|(apply AY;omega)|fail)<;>conv=>whnf))
   refine CK (λ i=>j-i) (λ(i:Nat)=>1<=i/\i<=j) (λ i=>[(37,.int .i64 i)]) (λ i=>[(5,5,.bx ([.row 67 0 1 0 i,.row 28 0 3 0 j,.row 88 0 3 0 i]++eQ b0)),(67,67,.mx (FP 3 eQ (a.take i))),(88,88,.rw 3 ((c.take i).map eQ))]) [] [] 1 (by first|exact (by (conv=>whnf);exact ⟨rfl,rfl,rfl⟩)|(rw[Bw (by omega),sn (by omega)];exact (by (conv=>whnf);exact ⟨rfl,rfl,rfl⟩))) (by omega) ?_;intro i ⟨g1,g2⟩ ih;have ur:(a.take i).length=i:=by rw[List.length_take];omega
   have ux:(c.take i).length=i:=by rw[List.length_take];omega
   by_cases hi:i<j
   ·obtain ⟨f1,f2,f3,f4,f5⟩:=wx i
    have Fl:=HC (Hn i g1 hi);have Fm:=HC (zd i hi);have uv:(a.take (i+1)).length=i+1:=by rw[List.length_take];omega
    have uy:(c.take (i+1)).length=i+1:=by rw[List.length_take];omega
    have Fx:=er ((i-1:Nat):Int);(repeat' ((first|(apply AG<;>intro hc<;>try (exfalso;omega))|apply AE)<;>conv=>whnf))
    refine ML (enc:=eQ) j hZ (by simp) ?_;(conv=>whnf)
    (repeat' ((first|(apply AG<;>intro hc<;>try (exfalso;omega))|(apply BA;omega)|(apply B1;omega)|refine AD (hO) ?_)<;>conv=>whnf))
    refine O8 (enc:=eQ) (i-1) 1 (by omega) rfl (λ_=>rfl) (by simp;omega) ?_;(conv=>whnf)
    rw[WQ];skip
    refine BA (by rw[List.length_map];omega) ?_;refine cP (r:=HD j ((i-1:Nat):Int)) (en:=eQ) ur.symm (by omega) (by omega) ?_;rw[<-Fl,uv];(conv=>whnf)
    (repeat' ((first|(apply AY;omega)|apply EN|refine AD (oa) ?_|refine AD (f1) ?_|refine AD (f2) ?_|refine AD (f3) ?_|refine AD (f4) ?_)<;>conv=>whnf))
    refine FH (enc:=eQ) (B.getD (i+1) 0-b0*A.getD (i+1) 0) rfl ux.symm rfl (by omega) (by omega) ?_;rw[<-Fm,uy];(conv=>whnf)
    (repeat' ((first|(apply AY;omega)|fail)<;>conv=>whnf))
    exact BQ [(67,1000067),(88,1000088)] (ih (i+1) (by omega) (by omega))
   obtain rfl:i=j:=by omega
   clear ih;rw[List.take_of_length_le (Nat.le_of_eq dw),List.take_of_length_le (Nat.le_of_eq n6)]at *;(repeat' ((first|(apply AG<;>intro hc<;>try (exfalso;omega))|apply AE)<;>conv=>whnf))
   refine UG (λ_=>rfl) rfl dw.symm ?_;(conv=>whnf)
   refine DE (enc:=eQ) (λ_=>rfl) rfl (er 0).symm ?_;(conv=>whnf)
   refine DE (enc:=eQ) (λ_=>rfl) rfl n6.symm ?_;(conv=>whnf)
   exact AW rfl ae
theorem fH {a:List (List Rat)} {i j:Nat} {r:List Rat} {x:Rat} (hr:a[j]? = some r) (hx:r[i]? = some x):(CW a i)[j]? = some x:=by
 simp only[CW,List.getElem?_map,hr,Option.map_some,ZC hx]
theorem vC {B A:List Rat} {n:Nat} : ∀ r∈(D8 B A n).a,r.length=n:=by
 intro r hr;simp only[D8,List.mem_map]at hr;obtain ⟨i,_,rfl⟩:=hr;split
 ·simp
 ·exact cF _ _
theorem cY {R:List (Option (Nat × List (List AV)))} {e:Nat} {r:Option (Nat × List (List AV))} {K:Option (Nat × List (List AV))->Prop} (h:R[e]? = some r) (hk:K r):CG R e K:=by
 unfold CG;exact ⟨r,h,hk⟩
end Go.c4


namespace Go.c4
open F
attribute [local irreducible] AA AF AU AC B6 AQ AX A9 A4 BS AP BR B0 C2 BN A0 BK B2 AB A5 AJ pw CG B4 CM CZ CU CP CN BJ B9
variable {L:Lib}
set_option maxHeartbeats 8000000
theorem Pr {X:List Rat} {n j:Nat} (h:j*n+n<=X.length):(WA X n j).length=n:=by
 simp only[WA,List.length_drop,List.length_take];omega
theorem Qz (l:List Int) (n:Nat):(N5 l n).Ok n 4:=by
 have hX:=V3 l (n*n+2*n+1);have hb:=mV l (n*n+2*n+1);have mem : ∀ (i j:Nat) (x:Rat),x∈((GG l (n*n+2*n+1)).take j).drop i->Bt 4 x:=λ i j x hx=>hb x (List.mem_of_mem_take (List.mem_of_mem_drop hx))
 have hr : ∀ r∈WB (GG l (n*n+2*n+1)) n n,∃ j,j<n/\r=WA (GG l (n*n+2*n+1)) n j:=λ r hr=>by
  simp only[WB,List.mem_map,List.mem_range]at hr;obtain ⟨j,h1,rfl⟩:=hr;exact ⟨j,h1,rfl⟩
 refine ⟨by simp [N5,WB],?_,?_,?_,?_,λ x hx=>mem _ _ x hx,λ x hx=>mem _ _ x hx,?_⟩
 ·intro r h
  obtain ⟨j,h1,rfl⟩:=hr r h;refine Pr ?_;have:=Nat.mul_le_mul_right n (show j+1<=n by omega)
  rw[Nat.succ_mul]at this;omega
 ·simp only[N5,List.length_drop,List.length_take];omega
 ·simp only[N5,List.length_drop,List.length_take];omega
 ·intro r h x hx
  obtain ⟨j,h1,rfl⟩:=hr r h;exact mem _ _ x hx
 ·show Bt 4 ((GG l (n*n+2*n+1)).getD (n*n+2*n) 0)
  rw[List.getD_eq_getElem?_getD];cases e:(GG l (n*n+2*n+1))[n*n+2*n]? with
  | none=>exact Bt.zero 4
  | some x=>exact hb.at e
end Go.c4



namespace Go.c4
open F
attribute [local irreducible] AA AF AU AC B6 AQ AX A9 A4 BS AP BR B0 C2 BN A0 BK B2 AB A5 AJ pw CG B4 CM CZ CU CP CN BJ B9
variable {L:Lib}
set_option maxHeartbeats 8000000
set_option maxRecDepth 8000
end Go.c4

namespace Go.c4
set_option maxHeartbeats 4000000
theorem Z3 (x:Rat):x.num<0↔x<0:=by rw[<-Int.not_le,Rat.num_nonneg,Rat.not_le]
theorem OD (x:Rat):BM x=if x<0 then -x else x:=by
 unfold BM;by_cases h:x<0
 ·rw[if_pos h,if_pos ((Z3 x).2 h)]
 ·rw[if_neg h,if_neg (λ e=>h ((Z3 x).1 e))]
theorem XA {a b c d:Rat} (h1:a<=b) (h2:c<=d):a+c<=b+d:=by grind
theorem UN (x:Rat):0<=BM x:=by
 rw[OD];split
 ·grind
 ·grind
theorem UM (x y:Rat):BM (x*y)=BM x*BM y:=by
 have pp : ∀ a b:Rat,0<=a->0<=b->0<=a*b:=λ a b=>Rat.mul_nonneg
 rw[OD,OD,OD];by_cases hx:x<0
 ·by_cases hy:y<0
  ·have h:=pp (-x) (-y) (by grind) (by grind)
   rw[if_pos hx,if_pos hy,if_neg (by rw[Rat.not_lt];grind)];grind
  ·have h:=pp (-x) y (by grind) (by grind)
   rw[if_pos hx,if_neg hy];by_cases h0:x*y<0
   ·rw[if_pos h0];grind
   ·rw[if_neg h0];grind
 ·by_cases hy:y<0
  ·have h:=pp x (-y) (by grind) (by grind)
   rw[if_neg hx,if_pos hy];by_cases h0:x*y<0
   ·rw[if_pos h0];grind
   ·rw[if_neg h0];grind
  ·have h:=pp x y (by grind) (by grind)
   rw[if_neg hx,if_neg hy,if_neg (by grind)]
theorem tH (x y:Rat):BM (x+y)<=BM x+BM y:=by
 rw[OD,OD,OD];split<;>split<;>split<;>grind
theorem UO {x:Rat} (h:0<=x):BM x=x:=by
 rw[OD,if_neg (by grind)]
theorem dQ:BM 0=0:=UO (by decide)
def A8:List Rat->Rat
 | []=>0
 | x::l=>BM x+A8 l
theorem nQ (x:Rat) : ∀ l,A8 (l++[x])=A8 l+BM x
 | []=>by simp only[List.nil_append,A8];grind
 | y::l=>by
  simp only[List.cons_append,A8,nQ x l];grind
theorem aZ : ∀ l,0<=A8 l
 | []=>by simp [A8]
 | x::l=>by
  have h1:=UN x;have h2:=aZ l;simp only[A8];grind
theorem WF {c:Rat} (hc:0<=c) : ∀ l,A8 (l.map (· * c))=A8 l*c
 | []=>by simp only[List.map_nil,A8];grind
 | x::l=>by
  simp only[List.map_cons,A8,WF hc l,UM,UO hc];grind
def F2 (m x:Rat):Rat:=if m<BM x then BM x else m
def B3 (l:List Rat):Rat:=l.foldl F2 0
theorem Kj (l:List Rat) (x:Rat):B3 (l++[x])=F2 (B3 l) x:=by rw[B3,List.foldl_append];rfl
theorem Kf (m x:Rat):m<=F2 m x/\BM x<=F2 m x:=by
 unfold F2;split<;>exact ⟨by grind,by grind⟩
theorem Kg {c:Rat} (hc:0<c) (m x:Rat):F2 (m*c) (x*c)=F2 m x*c:=by
 unfold F2;rw[UM,UO (show 0<=c by grind)];by_cases h:m<BM x
 ·rw[if_pos h,if_pos ((Rat.mul_lt_mul_right hc).2 h)]
 ·rw[if_neg h,if_neg (λ h1=>h ((Rat.mul_lt_mul_right hc).1 h1))]
theorem jV {c:Rat} (hc:0<c) : ∀ (l:List Rat) (m:Rat),(l.map (· * c)).foldl F2 (m*c)=l.foldl F2 m*c
 | [],_=>rfl
 | x::l,m=>by rw[List.map_cons,List.foldl_cons,List.foldl_cons,Kg hc,jV hc l]
theorem Ki {c:Rat} (hc:0<c) (l:List Rat):B3 (l.map (· * c))=B3 l*c:=by
 have:=jV hc l 0
 rwa [Rat.zero_mul]at this
theorem Y7 : ∀ (l:List Rat) (m:Rat),m<=l.foldl F2 m /\ ∀ x∈l,BM x<=l.foldl F2 m
 | [],m=>⟨Rat.le_refl,λ x h=>by cases h⟩
 | y::l,m=>by
  obtain ⟨h1,h2⟩:=Y7 l (F2 m y);obtain ⟨h3,h4⟩:=Kf m y;refine ⟨Rat.le_trans h3 h1,λ x hx => ?_⟩;rcases List.mem_cons.1 hx with rfl|hx
  ·exact Rat.le_trans h4 h1
  ·exact h2 x hx
theorem kA {l:List Rat} {x:Rat} (h:x∈l):BM x<=B3 l:=(Y7 l 0).2 x h
theorem SZ (l:List Rat):0<=B3 l:=(Y7 l 0).1
theorem Kh {l:List Rat} {c:Rat} (hc:0<=c) (h : ∀ x∈l,BM x<=c):B3 l<=c:=by
 have : ∀ (l:List Rat) (m:Rat),m<=c->(∀ x∈l,BM x<=c)->l.foldl F2 m<=c:=by
  intro l;induction l with
  | nil=>intro m hm _;exact hm
  | cons x l ih =>
   intro m hm h;refine ih _ ?_ λ y hy=>h y (List.mem_cons_of_mem _ hy)
   unfold F2;split
   ·exact h x List.mem_cons_self
   ·exact hm
 exact this l 0 hc h
theorem YB : ∀ (r v:List Rat) (g:Rat),0<=g->(∀ x∈v,BM x<=g)->BM (A6 r v)<=A8 r*g
 | [],v,g,hg,_=>by
  have:A6 [] v=0:=by cases v<;>rfl
  rw[this,dQ];simp only[A8];grind
 | x::r,[],g,hg,_=>by
  show BM 0<=_;rw[dQ];exact Rat.mul_nonneg (aZ _) hg
 | x::r,y::v,g,hg,h=>by
  have h1:=YB r v g hg λ z hz=>h z (List.mem_cons_of_mem _ hz)
  have h2:=h y List.mem_cons_self;have h3:BM x*BM y<=BM x*g:=Rat.mul_le_mul_of_nonneg_left h2 (UN x);have h4:=tH (x*y) (A6 r v);rw[UM]at h4;simp only[A6,A8];rw[Rat.add_mul];exact Rat.le_trans h4 (XA h3 h1)
theorem Qf {a:List (List Rat)} {s:Rat} (hs:0<=s) (h : ∀ r∈a,A8 r<=s) (v:List Rat):B3 (DP a v)<=s*B3 v:=by
 refine Kh (Rat.mul_nonneg hs (SZ v)) λ x hx => ?_
 obtain ⟨r,hr,rfl⟩:=List.mem_map.1 hx;exact Rat.le_trans (YB r v _ (SZ v) λ y hy=>kA hy) (Rat.mul_le_mul_of_nonneg_right (h r hr) (SZ v))
def DF (a:List (List Rat)):Bool:=a.all λ r=>decide (A8 r<=1/2)
def BU (n:Nat) (a:List (List Rat)):Nat->List (List Rat)
 | 0=>a
 | k+1=>FC (BU n a k) (BU n a k) n
theorem N2 {n:Nat} {a:List (List Rat)} (h:Sq n a) : ∀ k,Sq n (BU n a k)
 | 0=>h
 | k+1=>Sq.mul (N2 h k).l _
def B7 (c:Rat) (a:List (List Rat)):List (List Rat):=a.map λ r=>r.map (· * c)
theorem bF (c:Rat) (a:List (List Rat)):(B7 c a).length=a.length:=by simp [B7]
theorem WG {n:Nat} (c:Rat) {a:List (List Rat)} (h : ∀ r∈a,r.length=n) : ∀ r∈B7 c a,r.length=n:=λ r hr=>by
 obtain ⟨s,hs,rfl⟩:=List.mem_map.1 hr;rw[List.length_map];exact h s hs
theorem nR {n:Nat} (c:Rat) {a:List (List Rat)} (h:Sq n a):Sq n (B7 c a):=⟨by rw[bF,h.l],WG c h.r⟩
theorem Rz {c:Rat} {a:List (List Rat)} {i:Nat} {r:List Rat} (h:a[i]? = some r):(B7 c a)[i]? = some (r.map (· * c)):=by rw[B7,List.getElem?_map,h];rfl
theorem Mc (r:List Rat) (c:Rat) (j:Nat):(r.map (· * c)).getD j 0=r.getD j 0*c:=by
 rw[List.getD_eq_getElem?_getD,List.getD_eq_getElem?_getD,List.getElem?_map];cases r[j]? with
 | none=>simp [Rat.zero_mul]
 | some x=>rfl
theorem uO (c:Rat) (a:List (List Rat)) (j:Nat):CW (B7 c a) j=(CW a j).map (· * c):=by
 rw[CW,CW,B7,List.map_map,List.map_map];exact List.map_congr_left λ r _=>Mc r c j
theorem YA (c d:Rat) (u v:List Rat):A6 (u.map (· * c)) (v.map (· * d))=A6 u v*(c*d):=by
 rw[X9,PJ,X9,PJ];grind
theorem Mm (c d:Rat) (a b:List (List Rat)) (n:Nat):FC (B7 c a) (B7 d b) n=B7 (c*d) (FC a b n):=by
 show (a.map λ r=>r.map (· * c)).map (λ r=>DZ r (B7 d b) n)=(a.map λ r=>DZ r b n).map (λ r=>r.map (· * (c*d)));rw[List.map_map,List.map_map];refine List.map_congr_left λ r _ => ?_
 show DZ (r.map (· * c)) (B7 d b) n=(DZ r b n).map (· * (c*d));rw[DZ,DZ,List.map_map];refine List.map_congr_left λ j _ => ?_
 show A6 (r.map (· * c)) (CW (B7 d b) j)=A6 r (CW b j)*(c*d);rw[uO,YA]
theorem Qe (c d:Rat) (a:List (List Rat)) (v:List Rat):DP (B7 c a) (v.map (· * d))=(DP a v).map (· * (c*d)):=by
 show (a.map λ r=>r.map (· * c)).map (λ r=>A6 r (v.map (· * d)))=(a.map λ r=>A6 r v).map (· * (c*d));rw[List.map_map,List.map_map];exact List.map_congr_left λ r _=>YA c d r v
def DN (D:Rat):Nat->Rat
 | 0=>D
 | i+1=>DN D i*DN D i
theorem X7 {D:Rat} (h:0<D) : ∀ i,0<DN D i
 | 0=>h
 | i+1=>Rat.mul_pos (X7 h i) (X7 h i)
theorem oF (n:Nat) (a:List (List Rat)) (D:Rat) (i:Nat):FC (B7 (DN D i) (BU n a i)) (B7 (DN D i) (BU n a i)) n=B7 (DN D (i+1)) (BU n a (i+1)):=Mm _ _ _ _ _
theorem kD {s D:Rat} (hD:0<D):s*D+s*D<=D↔s<=1/2:=by
 have e:s*D+s*D=(s+s)*D:=by grind
 have h1:(s+s)*D<=1*D↔s+s<=1:=⟨λ h=>Rat.le_of_mul_le_mul_right h hD,λ h=>Rat.mul_le_mul_of_nonneg_right h (by grind)⟩;rw[Rat.one_mul]at h1;rw[e,h1];constructor<;>intro h<;>grind
theorem pG {k:Nat} {x:Rat} (hx:Bt k x) {S:Nat} {z:Int} (hz:x*(S:Rat)=(z:Rat)) {M:Nat} (hS:S<=2^M):Wh (k+M) (x*(S:Rat)):=by
 refine ⟨z,hz,?_⟩;have h1:=PX x;have h2:((z*(x.den:Int):Int):Rat)=((x.num*(S:Int):Int):Rat):=by
  rw[Rat.intCast_mul,Rat.intCast_mul,<-h1,<-hz,Rat.intCast_natCast,Rat.intCast_natCast];grind
 have h3:=congrArg Int.natAbs (Rat.intCast_inj.1 h2);rw[Int.natAbs_mul,Int.natAbs_mul,Int.natAbs_natCast,Int.natAbs_natCast]at h3;have h4:z.natAbs<=z.natAbs*x.den:=Nat.le_mul_of_pos_right _ x.den_pos;rw[Nat.pow_add];exact Nat.le_trans h4 (by rw[h3];exact Nat.mul_le_mul hx.1 hS)
theorem Pf (S:Nat) (x:Rat):((S:Rat)*x).den ∣ x.den:=by
 refine X0 (z:=S*x.num) ?_;have h:=PX x;rw[Rat.intCast_mul,<-h,Rat.intCast_natCast];grind
theorem nM {k:Nat} : ∀ (l:List Rat) (S:Nat),0<S->Bs k l -> ∃ S':Nat,l.foldl TM (S:Rat)=(S':Rat)/\0<S'/\S'<=S*2^(l.length*k)/\S ∣ S' /\ ∀ x∈l,∃ z:Int,x*(S':Rat)=(z:Rat)
 | [],S,h,_=>⟨S,rfl,h,by simp,Nat.dvd_refl S,λ x hx=>by cases hx⟩
 | x::l,S,h,hb=>by
  have h1:=Pf S x;have hx:=hb x List.mem_cons_self;have h2:((S:Rat)*x)*((((S:Rat)*x).den:Nat):Rat)=(((S:Rat)*x).num:Rat):=PX _;have h3:=Nat.le_of_dvd x.den_pos h1;have h4:=((S:Rat)*x).den_pos;generalize ((S:Rat)*x).num=u at h2;obtain ⟨S',e,p1,p2,p3,p4⟩:=nM l (S*((S:Rat)*x).den) (Nat.mul_pos h h4) λ y hy=>hb y (List.mem_cons_of_mem _ hy)
  refine ⟨S',by rw[List.foldl_cons,<-e,TM,Rat.natCast_mul],p1,?_,Nat.dvd_trans (Nat.dvd_mul_right _ _) p3,λ y hy => ?_⟩
  ·have h5:S*((S:Rat)*x).den<=S*2^k:=Nat.mul_le_mul_left S (Nat.le_trans h3 hx.2)
   have h6:=Nat.mul_le_mul_right (2^(l.length*k)) h5;rw[List.length_cons,Nat.succ_mul,Nat.pow_add,Nat.mul_comm (2^(l.length*k)),<-Nat.mul_assoc];exact Nat.le_trans p2 h6
  ·rcases List.mem_cons.1 hy with rfl|hy
   ·obtain ⟨t,rfl⟩:=p3
    refine ⟨u*(t:Int),?_⟩;rw[Rat.natCast_mul,Rat.natCast_mul,Rat.intCast_mul,<-h2,Rat.intCast_natCast];grind
   ·exact p4 y hy
theorem aT {k:Nat} {l:List Rat} (hb:Bs k l) : ∃ S:Nat,HW l=(S:Rat)/\0<S/\S<=2^(l.length*k) /\ ∀ x∈l,∃ z:Int,x*(S:Rat)=(z:Rat):=by
 obtain ⟨S,e,h1,h2,_,h3⟩:=nM l 1 (by omega) hb;exact ⟨S,e,h1,by rwa [Nat.one_mul]at h2,h3⟩
theorem vN (S:Nat) (x:Rat):((S:Rat)/(x.den:Rat)).den=((S:Rat)*x).den:=by
 have om:(x.den:Rat)≠0:=λ e=>by
  have:((x.den:Nat):Rat)=((0:Nat):Rat):=e
  have:=Rat.natCast_inj.1 this
  have:=x.den_pos
  omega
 have hx:=PX x;refine Nat.dvd_antisymm ?_ ?_
 ·-- e=(S x).den: e S num/d whole,so d ∣ e S
  have h1:=PX ((S:Rat)*x);generalize hE:((S:Rat)*x).den=E at *;generalize ((S:Rat)*x).num=u at h1;have h2:(((E*S:Nat):Int)*x.num:Int)=u*(x.den:Int):=by
   refine Rat.intCast_inj.1 ?_;rw[Rat.intCast_mul,Rat.intCast_mul,<-hx,<-h1,Rat.intCast_natCast,Rat.intCast_natCast,Rat.natCast_mul];grind
  have h3:x.den ∣ E*S*x.num.natAbs:=by
   have h4:(x.den:Int) ∣ ((E*S:Nat):Int)*x.num:=⟨u,by rw[h2,Int.mul_comm]⟩;have:=Int.natAbs_dvd_natAbs.2 h4
   rw[Int.natAbs_mul,Int.natAbs_natCast,Int.natAbs_natCast]at this;exact this
  obtain ⟨t,ht⟩:=Nat.Coprime.dvd_of_dvd_mul_right (Nat.Coprime.symm x.reduced) h3;refine X0 (z:=t) ?_;have h5:((E*S:Nat):Rat)=((x.den*t:Nat):Rat):=congrArg _ ht;rw[Rat.natCast_mul,Rat.natCast_mul]at h5;rw[Rat.div_def,<-Rat.mul_assoc,h5,Rat.intCast_natCast];have:=Rat.mul_inv_cancel _ om
  grind
 ·have h1:=PX ((S:Rat)/(x.den:Rat))
  generalize ((S:Rat)/(x.den:Rat)).num=u at h1;generalize ((S:Rat)/(x.den:Rat)).den=E at *;refine X0 (z:=u*x.num) ?_;rw[Rat.intCast_mul,<-h1,<-hx,Rat.div_def];have:=Rat.mul_inv_cancel _ om
  grind
end Go.c4

namespace Go.c4
open F
attribute [local irreducible] AA AF AU AC B6 AQ AX A9 A4 BS AP BR B0 C2 BN A0 BK B2 AB A5 AJ pw CG B4 CM CZ CU CP CN BJ B9
variable {L:Lib}
set_option maxHeartbeats 16000000
set_option maxRecDepth 8000
theorem yQ (N:z8 L) (l:List Int) (q:Bool) (n:Nat) (hl : ∀ x∈l,HZ x) (hn:n<=1000000):NA L 141 [.sl q (l.map QT),.int .i64 (n:Int)] 3 ((GG l n).map eQ):=by
 have kv : ∀ i:Nat,HZ (G3 l (i:Int)):=λ i=>by
  unfold G3;split
  ·rw[List.getD_eq_getElem?_getD]
   cases e:l[((i:Int)).toNat]? with
   | none=>simp [HZ]
   | some x=>exact hl x (zM e)
  ·simp [HZ]
 refine NA.x N.MJ rfl rfl ?_;(repeat' (apply AE<;>conv=>whnf))
 refine CK (λ i=>n-i) (λ(i:Nat)=>i<=n) (λ i=>[(6,.int .i64 i),(5,.row 5 0 3 0 i)]) (λ i=>[(5,5,.rw 3 ((GG l i).map eQ))]) [] [] 0 (by (conv=>whnf);exact ⟨rfl,rfl,rfl⟩) (by omega) ?_;intro i p1 ih;by_cases hi:i<n
 ·have Th:=λ q=>Lu N.tos8 l q (i:Int)
  have hW:=YY N.tos8 (G3 l (i:Int)) 2000 (kv i) (by omega);have Yq:0<=FU (G3 l (i:Int)) 2000/\FU (G3 l (i:Int)) 2000<2000:=by unfold FU;split<;>omega
  have Aw:=Pm l i;have hlen:=V3 l i;have hF:=VG N.toa8 (FU (G3 l (i:Int)) 2000%25-12) (1+FU (G3 l (i:Int)) 2000/25%8) (by omega) (by omega);have Tn:Ev L 125 [.int .i64 (FU (G3 l (i:Int)) 2000%25-12),.int .i64 (1+FU (G3 l (i:Int)) 2000/25%8)] (.agg (eQ (RC (FU (G3 l (i:Int)) 2000)))):=hF;clear hF;generalize RC (FU (G3 l (i:Int)) 2000)=y at *;generalize FU (G3 l (i:Int)) 2000=v at *;(repeat' ((first|(apply AG<;>intro hc<;>try (exfalso;omega))|(apply AY;omega)|(apply B1;omega)|(refine QL ?_ (λ_ _ _ => ?_) (λ_ _ _ _ => ?_);omega;all_goals try (exfalso;omega))|(refine O6 ?_ ?_ (λ_ => ?_) (λ_ _ => ?_);omega;omega;all_goals try (exfalso;omega))|apply EN|apply AE|refine AD (Th _) ?_|refine AD (hW) ?_|refine AD (Tn) ?_)<;>conv=>whnf))
  refine FH (enc:=eQ) y rfl hlen.symm rfl (by omega) (by omega) ?_;(conv=>whnf)
  (repeat' ((first|(apply AY;omega)|fail)<;>conv=>whnf))
  rw[show (GG l i++[y]).length=i+1 by simp [hlen],<-Aw];exact BQ [(5,27)] (ih (i+1) (by omega) (by omega))
 ·obtain rfl:i=n:=by omega
  clear ih;have hlen:=V3 l i;(repeat' ((first|(apply AG<;>intro hc<;>try (exfalso;omega))|apply AE)<;>conv=>whnf))
  exact ⟨rfl,rfl,by simp [hlen],rfl,IG _⟩
def OE (n:Nat):Rat:=Rat.divInt 1 (16*n)
def R4 (l:List Int) (n:Nat):CR:=⟨B7 (OE n) (N5 l n).a,(N5 l n).b,(N5 l n).c,(N5 l n).d⟩
theorem T7 {es:List (List AV)} {i j n:Nat} {K:List AV->Prop} {cs ds:List AV} (h:es[i]? = some cs) (hp:part cs j n=some ds) (hk:K ds):A9 es i j n K:=by
 unfold A9;exact ⟨cs,ds,h,hp,hk⟩
theorem UJ {es:List (List AV)} {i j:Nat} {vs cs:List AV} {K:List (List AV)->Prop} (h:es[i]? = some cs) (hl:Nat.ble (j+vs.length) cs.length=true) (hk:K (es.set i (splice cs j vs))):A4 es i j vs K:=by
 unfold A4;exact ⟨cs,h,Nat.le_of_ble_eq_true hl,hk⟩
theorem UH {es:List (List AV)} {off len:Nat} {K:List (List AV)->Prop} (h:Nat.ble (off+len) es.length=true) (hz:es.all E7=true) (hk:K ((es.drop off).take len)):A0 es off len K :=
 RY (Nat.le_of_ble_eq_true h) (λ e he=>List.all_eq_true.1 hz e he) hk
theorem yK (N:z7 L) (l:List Int) (q:Bool) (n:Nat) (hl : ∀ x∈l,HZ x) (hn:n<=3):Ev L 317 [.sl q (l.map QT),.int .i64 (n:Int)] (.agg (eS (R4 l n))):=by
 have hR:=λ q=>yQ N.toz8 l q (n*n+2*n+1) hl (by have:n*n<=9:=Nat.mul_le_mul hn hn;omega)
 have oe:=V3 l (n*n+2*n+1);have Ud:=mV l (n*n+2*n+1);have hF:Ev L 125 [.int .i64 1,.int .i64 (16*n)] (.agg (eQ (OE n))):=VG N.toa8 1 (16*n) (by omega) (by omega);have lf:Bt 6 (OE n):=by
  rw[OE,show (16*n:Int)=((16*n:Nat):Int) by omega,Rat.divInt_ofNat];refine Bt.mk (by decide) ?_;show _<=64;omega
 have hM : ∀ x∈GG l (n*n+2*n+1),Ev L 128 [.agg (eQ x),.agg (eQ (OE n))] (.agg (eQ (x*OE n))):=λ x hx=>SP N.toa8 (Ud x hx) lf (by omega) (by omega)
 unfold R4 N5;simp only[];generalize GG l (n*n+2*n+1)=X at *;obtain rfl|rfl|rfl|rfl:n=0\/n=1\/n=2\/n=3:=by omega
 ·match X,oe with
  | [x0],_ =>
   refine Ev.x N.GX rfl rfl ?_;(repeat' (apply AE<;>conv=>whnf))
   refine ES 1000 N.GY rfl rfl ?_;(repeat' ((first|(apply AY;omega)|(apply D5;omega)|apply AE)<;>conv=>whnf))
   refine ML (enc:=eQ) 1 (hR _) rfl ?_;(conv=>whnf)
   (repeat' ((first|(apply BA;omega)|(apply AY;omega)|(apply D5;omega)|(refine dA ?_ (λ_=>rfl) (λ v hv => ?_);omega)|(apply N8;omega))<;>conv=>whnf))
   obtain rfl:x0=v:=Option.some.inj hv;repeat (refine F9 ?_;(repeat' ((first|(apply AG<;>intro hc<;>try (exfalso;omega))|apply AE)<;>conv=>whnf)))
   refine ⟨rfl,?_⟩;(conv=>whnf)
   skip
   repeat (first|(refine F9 ?_;(repeat' ((first|(apply AG<;>intro hc<;>try (exfalso;omega))|apply AE)<;>conv=>whnf)))|(refine T7 rfl rfl ?_;(conv=>whnf);skip)|(refine UJ rfl rfl ?_;(conv=>whnf);skip))
   repeat (first|(refine BA rfl ?_;(conv=>whnf))|(refine UH rfl rfl ?_;(conv=>whnf)))
   exact AW rfl (R8 _)
 ·match X,oe with
  | [x0,x1,x2,x3],_ =>
   refine Ev.x N.GX rfl rfl ?_;(repeat' (apply AE<;>conv=>whnf))
   refine ES 1000 N.GY rfl rfl ?_;(repeat' ((first|(apply AY;omega)|(apply D5;omega)|apply AE)<;>conv=>whnf))
   refine ML (enc:=eQ) 4 (hR _) rfl ?_;(conv=>whnf)
   (repeat' ((first|(apply BA;omega)|(apply AY;omega)|(apply D5;omega)|(refine T6 ?_ (λ_=>rfl) (λ v hv => ?_);omega)|(apply N8;omega))<;>conv=>whnf))
   obtain rfl:x3=v:=Option.some.inj hv;repeat (refine F9 ?_;(repeat' ((first|(apply AG<;>intro hc<;>try (exfalso;omega))|(apply BA;omega)|(apply AY;omega)|(apply D5;omega)|(apply N8;omega)|apply AE)<;>conv=>whnf)))
   refine ⟨rfl,?_⟩;(conv=>whnf)
   skip
   repeat (first|(refine F9 ?_;(repeat' ((first|(apply AG<;>intro hc<;>try (exfalso;omega))|(apply BA;omega)|(apply AY;omega)|apply AE)<;>conv=>whnf)))|(refine T7 rfl rfl ?_;(conv=>whnf);(repeat' ((first|(apply BA;omega)|(apply D5;omega)|refine AD (hF) ?_|refine AD (hM _ (by simp)) ?_)<;>conv=>whnf)))|(refine UJ rfl rfl ?_;(conv=>whnf);(repeat' ((first|(apply AY;omega)|fail)<;>conv=>whnf))))
   repeat (first|(refine BA rfl ?_;(conv=>whnf))|(refine UH rfl rfl ?_;(conv=>whnf)))
   exact AW rfl (R8 _)
 ·match X,oe with
  | [x0,x1,x2,x3,x4,x5,x6,x7,x8],_ =>
   refine Ev.x N.GX rfl rfl ?_;(repeat' (apply AE<;>conv=>whnf))
   refine ES 1000 N.GY rfl rfl ?_;(repeat' ((first|(apply AY;omega)|(apply D5;omega)|apply AE)<;>conv=>whnf))
   refine ML (enc:=eQ) 9 (hR _) rfl ?_;(conv=>whnf)
   (repeat' ((first|(apply BA;omega)|(apply AY;omega)|(apply D5;omega)|(refine T6 ?_ (λ_=>rfl) (λ v hv => ?_);omega)|(apply N8;omega))<;>conv=>whnf))
   obtain rfl:x8=v:=Option.some.inj hv;repeat (refine F9 ?_;(repeat' ((first|(apply AG<;>intro hc<;>try (exfalso;omega))|(apply BA;omega)|(apply AY;omega)|(apply D5;omega)|(apply N8;omega)|apply AE)<;>conv=>whnf)))
   refine ⟨rfl,?_⟩;(conv=>whnf)
   skip
   repeat (first|(refine F9 ?_;(repeat' ((first|(apply AG<;>intro hc<;>try (exfalso;omega))|(apply BA;omega)|(apply AY;omega)|apply AE)<;>conv=>whnf)))|(refine T7 rfl rfl ?_;(conv=>whnf);(repeat' ((first|(apply BA;omega)|(apply D5;omega)|refine AD (hF) ?_|refine AD (hM _ (by simp)) ?_)<;>conv=>whnf)))|(refine UJ rfl rfl ?_;(conv=>whnf);(repeat' ((first|(apply AY;omega)|fail)<;>conv=>whnf))))
   repeat (first|(refine BA rfl ?_;(conv=>whnf))|(refine UH rfl rfl ?_;(conv=>whnf)))
   exact AW rfl (R8 _)
 ·match X,oe with
  | [x0,x1,x2,x3,x4,x5,x6,x7,x8,x9,xa,xb,xc,xd,xe,xf],_ =>
   refine Ev.x N.GX rfl rfl ?_;(repeat' (apply AE<;>conv=>whnf))
   refine ES 1000 N.GY rfl rfl ?_;(repeat' ((first|(apply AY;omega)|(apply D5;omega)|apply AE)<;>conv=>whnf))
   refine ML (enc:=eQ) 16 (hR _) rfl ?_;(conv=>whnf)
   (repeat' ((first|(apply BA;omega)|(apply AY;omega)|(apply D5;omega)|(refine T6 ?_ (λ_=>rfl) (λ v hv => ?_);omega)|(apply N8;omega))<;>conv=>whnf))
   obtain rfl:xf=v:=Option.some.inj hv;repeat (refine F9 ?_;(repeat' ((first|(apply AG<;>intro hc<;>try (exfalso;omega))|(apply BA;omega)|(apply AY;omega)|(apply D5;omega)|(apply N8;omega)|apply AE)<;>conv=>whnf)))
   refine ⟨rfl,?_⟩;(conv=>whnf)
   skip
   repeat (first|(refine F9 ?_;(repeat' ((first|(apply AG<;>intro hc<;>try (exfalso;omega))|(apply BA;omega)|(apply AY;omega)|apply AE)<;>conv=>whnf)))|(refine T7 rfl rfl ?_;(conv=>whnf);(repeat' ((first|(apply BA;omega)|(apply D5;omega)|refine AD (hF) ?_|refine AD (hM _ (by simp)) ?_)<;>conv=>whnf)))|(refine UJ rfl rfl ?_;(conv=>whnf);(repeat' ((first|(apply AY;omega)|fail)<;>conv=>whnf))))
   repeat (first|(refine BA rfl ?_;(conv=>whnf))|(refine UH rfl rfl ?_;(conv=>whnf)))
   exact AW rfl (R8 _)
end Go.c4





















namespace Go.c4
open Go.ChangeShapes Go.WideShapes Go.ChangeAt Go.RowKit
inductive Ty where
 | int (k:IntKind)
 | bool
 | sl (e:Ty)
 | nil
 | cons (a r:Ty)
def Ty.cells:Ty->Nat
 | .int _=>1 | .bool=>1 | .sl _=>1
 | .nil=>0
 | .cons a r=>a.cells+r.cells
def GN:Ty->List AV->Prop
 | .int k,cs => ∃ n,cs=[.int k n]/\(Lit.int k n).wf=true
 | .bool,cs => ∃ b,cs=[.bool b]
 | .sl e,cs => ∃ es,cs=[.sl true es]/\es.length<=maxLen /\ ∀ x∈es,GN e x
 | .nil,cs=>cs=[]
 | .cons a r,cs => ∃ x y,cs=x++y/\GN a x/\GN r y
theorem GN.len : ∀ {ty:Ty} {cs:List AV},GN ty cs->cs.length=ty.cells
 | .int _,cs,h=>by obtain ⟨n,rfl,_⟩:=h;rfl
 | .bool,cs,h=>by obtain ⟨n,rfl⟩:=h;rfl
 | .sl _,cs,h=>by obtain ⟨n,rfl,_⟩:=h;rfl
 | .nil,cs,h=>by rw[show cs=[] from h];rfl
 | .cons a r,cs,h=>by obtain ⟨x,y,rfl,h1,h2⟩:=h;simp [Ty.cells,GN.len h1,GN.len h2]
def KJ (P:Program):Nat->TypeId->Ty->Bool
 | 0,_,_=>false
 | n+1,t,ty=>match P.underlying t,ty with
  | some (.int k),.int k'=>decide (k=k')
  | some .bool,.bool=>true
  | some (.slice e),.sl gj=>KJ P n e gj&&(P.cellsOf e == gj.cells&&decide (0<gj.cells))
  | some (.struct fs),ty=>go (KJ P n) fs.toList 0 ty&&P.cellsOf t == ty.cells
  | _,_=>false
where
 go (ok:TypeId->Ty->Bool):List Field->Nat->Ty->Bool
  | [],_,.nil=>true
  | f::fs,off,.cons a r=>(f.offset == off&&(ok f.type a&&P.cellsOf f.type == a.cells))&&go ok fs (off+a.cells) r
  | _,_,_=>false
section
variable {H:Type} {enc:TypeId × Value->H} {P:Program} {w:World} {base:Nat} {spare:Nat->Bool} {held:Bool} {R:Bool->Nat->Prop}
def G1 (w:World) (R:Bool->Nat->Prop) (as:List AV) (cs:List Value):Prop:=as.length=cs.length /\ ∀ (j:Nat) (a:AV) (c:Value),as[j]? = some a->cs[j]? = some c->Rd w R a c
theorem G1.one {a:AV} {c:Value} (h:Rd w R a c):G1 w R [a] [c]:=by
 refine ⟨rfl,λ j a' c' h1 h2 => ?_⟩;cases j with
 | zero=>simp at h1 h2;subst h1 h2;exact h
 | succ j=>simp at h1
theorem G1.append {as bs:List AV} {cs ds:List Value} (h1:G1 w R as cs) (h2:G1 w R bs ds):G1 w R (as++bs) (cs++ds):=by
 refine ⟨by simp [h1.1,h2.1],λ j a c ha hc => ?_⟩;by_cases hj:j<as.length
 ·rw[List.getElem?_append_left hj]at ha
  rw[List.getElem?_append_left (by rw[<-h1.1];exact hj)]at hc;exact h1.2 j a c ha hc
 ·rw[List.getElem?_append_right (by omega)]at ha
  rw[List.getElem?_append_right (by rw[<-h1.1];omega),<-h1.1]at hc;exact h2.2 _ a c ha hc
theorem dR (a:Addr) (i:Nat) (h:a.spot=none):a.add i=⟨a.block,a.off+i,none⟩:=by
 obtain ⟨b,o,s⟩:=a;simp only at h;subst h;exact GO b o i
theorem mH (hR : ∀ b,b<w.heap.size->R true b) (m:Nat) (ih : ∀ (ty:Ty) (t:TypeId) (cs:List Value) (fuel:Nat) (x:DataW H × List MemPlace),KJ P m t ty=true->DataW.trod enc P w base spare held fuel t cs=some x -> ∃ as,GN ty as/\G1 w R as cs)
  (n:Nat) (cs:List Value) : ∀ (fs:List Field) (off:Nat) (ty:Ty),KJ.go P (KJ P m) fs off ty=true->(∀ f∈fs,∃ y,DataW.trod enc P w base spare held n f.type ((cs.drop f.offset).take (P.cellsOf f.type))=some y)->off+ty.cells=cs.length -> ∃ as,GN ty as/\G1 w R as (cs.drop off)
 | [],off,ty,g8,_,hl=>by
  cases ty<;>simp only[KJ.go,Bool.false_eq_true]at g8;simp only[Ty.cells]at hl;exact ⟨[],rfl,by rw[List.drop_of_length_le (by omega)];exact ⟨rfl,λ j a c h=>by simp at h⟩⟩
 | f::fs,off,ty,g8,hf,hl=>by
  cases ty<;>simp only[KJ.go,Bool.false_eq_true,Bool.and_eq_true,beq_iff_eq]at g8;rename_i a r;obtain ⟨⟨h1,h2,h3⟩,h4⟩:=g8;simp only[Ty.cells]at hl;obtain ⟨y,hy⟩:=hf f List.mem_cons_self;rw[h1,h3]at hy;obtain ⟨Gp,g1,g2⟩:=ih a f.type _ n y h2 hy;obtain ⟨Gq,g3,g4⟩:=mH hR m ih n cs fs (off+a.cells) r h4 (λ f' h'=>hf f' (List.mem_cons_of_mem _ h')) (by omega);refine ⟨Gp++Gq,⟨Gp,Gq,rfl,g1,g3⟩,?_⟩;have:=g2.append g4
  rwa [show (cs.drop off).take a.cells++cs.drop (off+a.cells)=cs.drop off by rw[<-List.drop_drop,List.take_append_drop]]at this
theorem mG (hR : ∀ b,b<w.heap.size->R true b) : ∀ (m:Nat) (ty:Ty) (t:TypeId) (cs:List Value) (fuel:Nat) (x:DataW H × List MemPlace),KJ P m t ty=true->DataW.trod enc P w base spare held fuel t cs=some x -> ∃ as,GN ty as/\G1 w R as cs
 | 0,_,_,_,_,_,h,_=>by simp [KJ]at h
 | m+1,ty,t,cs,fuel,x,g8,h=>by
  have ih:=mG hR m;simp only[KJ]at g8;split at g8
  ·rename_i k k' hu
   obtain rfl:k=k':=by simpa using g8
   obtain ⟨n,rfl,_,hw⟩:=DataW.trod_int hu h;exact ⟨[.int k n],⟨n,rfl,hw⟩,G1.one (.int k n)⟩
  ·rename_i hu
   cases fuel with
   | zero=>simp [DataW.trod]at h
   | succ fuel =>
    unfold DataW.trod at h;rw[hu]at h;split at h<;>simp_all
    exact ⟨_,⟨_,rfl⟩,G1.one (.bool _)⟩
  ·rename_i e gj hu
   simp only[Bool.and_eq_true,beq_iff_eq,decide_eq_true_eq]at g8;obtain ⟨h1,h2,h3⟩:=g8;rcases DataW.trod_slice hu h with ⟨rfl,_⟩|⟨a,len,cap,elems,rest,n,_,rfl,_,hb,hl,hm,hlen,w6,_,_⟩
   ·exact ⟨[.sl true []],⟨[],rfl,by simp,by simp⟩,G1.one (.ew true none 0)⟩
   ·have each : ∀ i,i<len -> ∃ as bm,GN gj as/\G1 w R as bm/\bm.length=gj.cells /\ ∀ j,j<gj.cells->w.cell? ((a.add (i*gj.cells)).add j)=bm[j]? := by
     intro i hi;have:=w6 i hi
     rw[h2,zE (by omega),Option.bind_eq_some_iff]at this;obtain ⟨bm,hc,ht⟩:=this;obtain ⟨as,g1,g2⟩:=ih gj e bm n _ h1 ht;obtain ⟨_,q1,q2⟩:=World.cells?_some hc;exact ⟨as,bm,g1,g2,q1,q2⟩
    by_cases h0:len=0
    ·subst h0
     exact ⟨[.sl true []],⟨[],rfl,by simp,by simp⟩,G1.one (.ew true (some a) cap)⟩
    ·have tl:a.spot=none:=by
      obtain ⟨as,bm,_,_,q1,q2⟩:=each 0 (by omega);have:=q2 0 h3
      rw[zE (by omega)]at this;simpa [Addr.add] using World.cell?_spot this
     have ib:a.block<w.heap.size:=by
      obtain ⟨as,bm,_,_,q1,q2⟩:=each 0 (by omega);have:=q2 0 h3
      rw[zE (by omega)]at this;simpa [Addr.add] using PE this
     have pick : ∃ f:Nat->List AV × List Value,∀ i,i<len->GN gj (f i).1/\G1 w R (f i).1 (f i).2/\(f i).2.length=gj.cells /\ ∀ j,j<gj.cells->w.cell? ((a.add (i*gj.cells)).add j)=(f i).2[j]? := by
      refine ⟨λ i=>if hi:i<len then (Classical.choose (each i hi),Classical.choose (Classical.choose_spec (each i hi))) else ([],[]),λ i hi => ?_⟩;simp only[hi,dif_pos];exact Classical.choose_spec (Classical.choose_spec (each i hi))
     obtain ⟨f,hf⟩:=pick;have l7 : ∀ i e',((List.range len).map λ i=>(f i).1)[i]? = some e'->i<len/\e'=(f i).1:=by
      intro i e' he;rw[List.getElem?_map]at he;by_cases hi:i<len
      ·rw[List.getElem?_range hi]at he
       simp at he;exact ⟨hi,he.symm⟩
      ·rw[List.getElem?_eq_none (by simpa using hi)]at he
       cases he
     refine ⟨[.sl true ((List.range len).map λ i=>(f i).1)],⟨_,rfl,by simp;omega,λ x hx => ?_⟩,G1.one ?_⟩
     ·obtain ⟨i,hi,rfl⟩:=List.mem_map.1 hx
      exact (hf i (List.mem_range.1 hi)).1
     ·obtain ⟨ab,ao,as⟩:=a
      simp only at tl;subst tl;have td:((List.range len).map λ i=>(f i).1).length=len:=by simp
      have:=Rd.sl (w:=w) (R:=R) true ((List.range len).map λ i=>(f i).1) ab ao gj.cells cap (λ i j=>((f i).2[j]?).getD default) (by intro e;have:=congrArg List.length e;simp at this;omega) h3 (hR ab ib) (by rw[td];exact hl)
       (λ e' he=>by
        obtain ⟨i,hi,rfl⟩:=List.mem_map.1 he;exact (hf i (List.mem_range.1 hi)).1.len)
       (λ i e' he j c hc=>by
        obtain ⟨hi,rfl⟩:=l7 i e' he;obtain ⟨g1,g2,g3,g4⟩:=hf i hi;have hj:j<gj.cells:=by
         have:=(zS hc).1
         rwa [g1.len]at this
        have h5:=g4 j hj;rw[dR ⟨ab,ao,none⟩ (i*gj.cells) rfl,dR _ _ rfl]at h5;simp only at h5;rw[show ao+(i*gj.cells+j)=ao+i*gj.cells+j by omega,h5,zE (by omega)];rfl)
       (λ i e' he j c hc=>by
        obtain ⟨hi,rfl⟩:=l7 i e' he;obtain ⟨g1,g2,g3,g4⟩:=hf i hi;have hj:j<gj.cells:=by
         have:=(zS hc).1
         rwa [g1.len]at this
        have h6:(f i).2[j]? = some ((f i).2[j]'(by omega)):=zE _;rw[h6];exact g2.2 j c _ hc h6)
      rwa [td]at this
  ·rename_i fs hu
   simp only[Bool.and_eq_true,beq_iff_eq]at g8;obtain ⟨h1,h2⟩:=g8;obtain ⟨xs,n,_,_,hl,hlen,hf⟩:=DataW.trod_struct hu h;have:=mH hR m ih n cs fs.toList 0 _ h1 (λ f ic=>by
    obtain ⟨i,hi,rfl⟩:=List.getElem_of_mem ic;have h5:=hf i fs.toList[i] (by simp);rw[h5,zE (by simpa [hlen] using hi)];exact ⟨_,rfl⟩) (by rw[hl,h2];omega)
   simpa using this
  ·exact absurd g8 (by simp)
theorem aA {S:Nat->Prop} {ty:Ty} {t:TypeId} {v:Value} {d:DataW H} {ps:List MemPlace} {m:Nat} (g8:KJ P m t ty=true) (hv:v.cells.toList=[v]) (h:DataW.Trod enc P w base spare held t v d ps) :
  ∃ a,GN ty [a]/\CA w.heap.size S ⟨λ_ _=>none,AH.emp,w⟩ a v:=by
 obtain ⟨fuel,hf⟩:=h;rw[hv]at hf;obtain ⟨as,h1,h2⟩:=mG (R:=safe w.heap.size S ⟨λ_ _=>none,AH.emp,w⟩) (λ b hb=>Or.inr (Or.inr ⟨rfl,hb⟩)) m ty t [v] fuel _ g8 hf;obtain ⟨a,rfl⟩ : ∃ a,as=[a]:=by
  have:=h2.1
  match as,this with
  | [a],_=>exact ⟨a,rfl⟩
 exact ⟨a,h1,.one (.rd (h2.2 0 a v rfl rfl))⟩
end
theorem tQ {B:Nat} {S:Nat->Prop} {m:M} : ∀ (j:Nat) (c:AV) (v:Value),([]:List AV)[j]? = some c->([]:List Value)[j]? = some v->CA B S m c v:=λ j c v h=>by simp at h
theorem XF {B:Nat} {S:Nat->Prop} {m:M} {a:AV} {u:Value} {as:List AV} {us:List Value} (h:CA B S m a u) (hr : ∀ (j:Nat) (c:AV) (v:Value),as[j]? = some c->us[j]? = some v->CA B S m c v) :
  ∀ (j:Nat) (c:AV) (v:Value),(a::as)[j]? = some c->(u::us)[j]? = some v->CA B S m c v
 | 0,c,v,h1,h2=>by simp at h1 h2;subst h1 h2;exact h
 | j+1,c,v,h1,h2=>hr j c v (by simpa using h1) (by simpa using h2)
theorem Nb {P:Program} {num:Nat->Nat} {L:Lib} (hP:ProgOK P num L) {f:Nat} {vs:List AV} (h:Ev L f vs (.bool true)) {S:Nat->Prop} {w:World} {us:List Value} (hl:vs.length=us.length)
  (ha : ∀ (j:Nat) (c:AV) (v:Value),vs[j]? = some c->us[j]? = some v->CA w.heap.size S ⟨λ_ _=>none,AH.emp,w⟩ c v) :
  Calls P (num f) us.toArray w λ e w'=>e = .returned (.bool true)/\Below w.heap.size w w':=by
 obtain ⟨n,hn⟩:=h;refine ((tZ hP n).pure f vs _ hn S w us hl ha).mono ?_;rintro e w' ⟨u,rfl,hb,q6,_⟩
 refine ⟨?_,hb⟩;cases q6 with
 | ca mg=>cases mg with
  | one q9=>cases q9 with
   | rd gq=>cases gq;rfl
end Go.c4

namespace Go.c4
abbrev tI:Ty := .int .i64
theorem lD {α:Type} {enc:α->List AV} {p:α->Prop} : ∀ {es:List (List AV)},(∀ x∈es,∃ y,x=enc y/\p y) -> ∃ l:List α,es=l.map enc /\ ∀ y∈l,p y
 | [],_=>⟨[],rfl,by simp⟩
 | e::es,h=>by
  obtain ⟨y,rfl,hy⟩:=h e List.mem_cons_self;obtain ⟨l,rfl,hl⟩:=lD (enc:=enc) (p:=p) λ x hx=>h x (List.mem_cons_of_mem _ hx)
  exact ⟨y::l,rfl,by simpa using ⟨hy,hl⟩⟩
theorem Ka {α:Type} {enc:α->List AV} {p:α->Prop} {e:Ty} {cs:List AV} (he : ∀ x,GN e x -> ∃ y,x=enc y/\p y) (h:GN (.sl e) cs) : ∃ l:List α,cs=[.sl true (l.map enc)]/\l.length<9223372036854775808 /\ ∀ y∈l,p y:=by
 obtain ⟨es,rfl,hl,hx⟩:=h;obtain ⟨l,rfl,hp⟩:=lD (enc:=enc) (p:=p) λ x hm=>he x (hx x hm)
 refine ⟨l,rfl,?_,hp⟩;have:maxLen=9223372036854775807:=rfl
 simp at hl;omega
theorem Rl {n:Int} (h:(Lit.int .i64 n).wf=true):HZ n:=by
 simp only[Lit.wf,Bool.and_eq_true,decide_eq_true_eq]at h;have h1:IntKind.i64.min = -9223372036854775808:=rfl;have h2:IntKind.i64.max=9223372036854775807:=rfl;rw[h1,h2]at h;unfold HZ;constructor<;>omega
theorem ZF {cs:List AV} (h:GN tI cs) : ∃ n,cs=QT n/\HZ n:=by obtain ⟨n,rfl,hw⟩:=h;exact ⟨n,rfl,Rl hw⟩
theorem Jz {cs:List AV} (h:GN (.sl tI) cs) : ∃ l:List Int,cs=[.sl true (l.map QT)]/\l.length<9223372036854775808 /\ ∀ v∈l,HZ v:=Ka (λ_=>ZF) h
end Go.c4



namespace Go.c4
open F
attribute [local irreducible] AA AF AU AC B6 AQ AX A9 A4 BS AP BR B0 C2 BN A0 BK B2 AB A5 AJ pw CG B4 CM CZ CU CP CN BJ B9
variable {L:Lib}
set_option maxHeartbeats 8000000
abbrev eM (m:List (List Rat)):List (List AV):=m.map λ r=>[AV.sl false (r.map eQ)]
theorem XR (m:List (List Rat)):FM (eM m):=SA (λ r=>by simp only[CQ,A1,and_true,true_and];exact IG r) m
theorem eJ (m:List (List Rat)):A1 (.sl false (eM m)):=by
 simp only[A1,true_and];exact XR m
end Go.c4

namespace Go.c4
variable {L:Lib}
end Go.c4



namespace Go.c4
open F
attribute [local irreducible] AA AF AU AC B6 AQ AX A9 A4 BS AP BR B0 C2 BN A0 BK B2 AB A5 AJ pw CG B4 CM CZ CU CP CN BJ B9
variable {L:Lib}
set_option maxHeartbeats 16000000
abbrev G5 (q:Bool) (m:List (List Rat)):List (List AV):=m.map λ r=>[AV.sl q (r.map eQ)]
end Go.c4

namespace Go.c4
variable {L:Lib}
end Go.c4

namespace Go.c4
open F
attribute [local irreducible] AA AF AU AC B6 AQ AX A9 A4 BS AP BR B0 C2 BN A0 BK B2 AB A5 AJ pw CG B4 CM CZ CU CP CN BJ B9
variable {L:Lib}
set_option maxHeartbeats 16000000
theorem vQ:dg 1=[1]:=by rw[H3 (by decide)];simp [EJ]
end Go.c4

namespace Go.c4
section
variable {M ky:Nat} {g:List Pt}
end
end Go.c4

namespace Go.c4
open F
attribute [local irreducible] AA AF AU AC B6 AQ AX A9 A4 BS AP BR B0 C2 BN A0 BK B2 AB A5 AJ pw CG B4 CM CZ CU CP CN BJ B9
variable {L:Lib}
set_option maxHeartbeats 16000000
set_option maxRecDepth 8000
theorem Qx (x:Rat):qv false (dg x.num.natAbs) (dg x.den)=BM x:=by
 unfold BM;split
 ·rename_i h
  have:=EP (-x)
  rw[Rat.neg_num,Int.natAbs_neg,Rat.neg_den,show decide (-x.num<0)=false from decide_eq_false (by omega)]at this;exact this
 ·rename_i h
  have:=EP x
  rw[show decide (x.num<0)=false from decide_eq_false h]at this;exact this
theorem VE (N:u5 L) {x:Rat} {k:Nat} (hx:Bt k x) (hk:k<2199023255552):Ev L 256 [.agg (eQ x)] (.agg (eQ (BM x))):=by
 have hs:=hx.sm hk;have hT:=YV N.toa7 false false false (dg x.num.natAbs) (dg x.den) (hs.1.le (by omega)) (hs.2.le (by omega));rw[Qx]at hT;refine Ev.x N.K0 rfl rfl ?_;(repeat' ((first|apply AE|refine AD (hT) ?_)<;>conv=>whnf))
 exact AW rfl (C4 _)
theorem xX (z:Int):eQ (z:Rat)=[.bool (decide (z<0)),.sl false ((dg z.natAbs).map AL),.sl false [[.int .u32 1]]]:=by
 simp only[eQ,rQ,Rat.num_intCast,Rat.den_intCast,vQ];rfl
theorem yT (N:o4 L) (m:List (List Rat)) (b:List Rat) (q1 q2 q3:Bool) (n k s:Nat) (hs:Sq n m) (hb:b.length=n) (hm:Ms k m) (my:Bs s b) (hn:n<=4) (hK:4*(k+s+1)+k+s<2199023255552):Ev L 138 [.sl q1 (G5 q3 m),.sl q2 (b.map eQ)] (.sl false ((DP m b).map eQ)):=by
 have pd:=hs.l;have gv:=Z1 m b;refine Ev.x N.L3 rfl rfl ?_;(repeat' (apply AE<;>conv=>whnf))
 refine CK (λ j=>m.length-j) (λ(j:Nat)=>j<=m.length) (λ j=>[(6,.int .i64 j),(5,.row 138005 0 3 0 j)]) (λ j=>[(138005,138005,.rw 3 (((DP m b).take j).map eQ))]) [] [] 0 (by (conv=>whnf);exact ⟨rfl,rfl,rfl⟩) (by omega) ?_;intro j r1 jh;have hlen:((DP m b).take j).length=j:=by rw[List.length_take];omega
 by_cases hj:j<m.length
 ·obtain ⟨r,hr⟩ : ∃ r,m[j]? = some r:=⟨_,zE hj⟩
  have lq:m[(j:Int).toNat]? = some r:=hr;have df:=hs.at hr;have wm:=λ q q'=>iF N r b q q' k s (by omega) (hm.at hr) my (by rw[df];have:=Nat.mul_le_mul_right (k+s+1) hn;omega) (by omega)
  have hy:(DP m b)[j]? = some (A6 r b):=by rw[DP,List.getElem?_map,hr];rfl
  have zw:((DP m b).take (j+1)).length=j+1:=by rw[List.length_take];omega
  (repeat' ((first|(apply AG<;>intro hc<;>try (exfalso;omega))|apply AR|(refine BG (by assumption) ?_ rfl ?_;omega)|apply EN|apply AE|refine AD (wm _ _) ?_)<;>conv=>whnf))
  refine FH (enc:=eQ) (A6 r b) rfl hlen.symm rfl (by omega) (by omega) ?_;(conv=>whnf)
  (repeat' ((first|(apply AY;omega)|fail)<;>conv=>whnf))
  rw[<-TV hy,zw];exact BQ [(138005,138021)] (jh (j+1) (by omega) (by omega))
 obtain rfl:j=m.length:=by omega
 clear jh;rw[List.take_of_length_le (by omega)];(repeat' ((first|(apply AG<;>intro hc<;>try (exfalso;omega))|apply AR|apply AE)<;>conv=>whnf))
 refine DE (enc:=eQ) (λ_=>rfl) rfl gv.symm ?_;(conv=>whnf)
 exact AW rfl (by simp only[A1,true_and];exact IG _)
end Go.c4



namespace Go.c4
open F
attribute [local irreducible] AA AF AU AC B6 AQ AX A9 A4 BS AP BR B0 C2 BN A0 BK B2 AB A5 AJ pw CG B4 CM CZ CU CP CN BJ B9
variable {L:Lib}
set_option maxHeartbeats 16000000
end Go.c4

namespace Go.c4
end Go.c4

namespace Go.c4
open F
attribute [local irreducible] AA AF AU AC B6 AQ AX A9 A4 BS AP BR B0 C2 BN A0 BK B2 AB A5 AJ pw CG B4 CM CZ CU CP CN BJ B9
variable {L:Lib}
set_option maxHeartbeats 16000000
theorem Qj {T:List (List Rat)} {n i:Nat} (hl:T.length=n) (hi:i<n):(mz T n i)[i]? = some none:=by
 have ff:(FP 3 eQ (T.take i)).length=i:=by simp only[FP,List.length_map,List.length_take];omega
 have:=Lz (z:=(none:Option (Nat × List (List AV)))) (l:=FP 3 eQ (T.take i)) (m:=n) (by omega)
 rw[ff]at this;exact this
end Go.c4

namespace Go.c4
set_option maxHeartbeats 2000000
def ED (a:List (List Rat)) (b:List Rat):Nat->List Rat
 | 0=>b
 | k+1=>DP a (ED a b k)
theorem WX {a:List (List Rat)} {b:List Rat} {n:Nat} (ha:a.length=n) (hb:b.length=n) : ∀ k,(ED a b k).length=n
 | 0=>hb
 | k+1=>by rw[ED,Z1,ha]
theorem cH (a:List (List Rat)) (b:List Rat) (k:Nat) : ∀ m,ED a b (k+m)=ED a (ED a b k) m
 | 0=>rfl
 | m+1=>by rw[<-Nat.add_assoc,ED,cH a b k m];rfl
theorem bR {n:Nat} {a:List (List Rat)} (h:Sq n a) : ∀ (i:Nat) (v:List Rat),v.length=n->DP (BU n a i) v=ED a v (2^i)
 | 0,_,_=>rfl
 | i+1,v,hv=>by
  rw[BU,Qd _ _ _ (N2 h i).r,bR h i v hv,bR h i _ (WX h.l hv _),<-cH,Nat.pow_succ,Nat.mul_two]
theorem uW {a:List (List Rat)} (h:DF a=true) : ∀ r∈a,A8 r<=1/2:=λ r hr=>by
 have:=List.all_eq_true.1 h r hr
 simpa using this
theorem uV {a:List (List Rat)}:DF a=true ↔ ∀ r∈a,A8 r<=1/2:=by
 rw[DF,List.all_eq_true];exact ⟨λ h r hr=>by simpa using h r hr,λ h r hr=>by simpa using h r hr⟩
theorem bZ {f g:Nat->Rat} : ∀ n,(∀ j,j<n->f j<=g j)->B8 f n<=B8 g n
 | 0,_=>Rat.le_refl
 | n+1,h=>by
  have h1:=bZ n λ j hj=>h j (by omega)
  have h2:=h n (by omega);simp only[B8];exact XA h1 h2
theorem oQ {f:Nat->Rat} (h : ∀ j,0<=f j) : ∀ n,0<=B8 f n
 | 0=>Rat.le_refl
 | n+1=>by
  have h1:=oQ h n;have h2:=h n;simp only[B8];grind
theorem TT (f:Nat->Rat) (p:Nat) : ∀ m,B8 f (p+m)=B8 f p+B8 (λ j=>f (p+j)) m
 | 0=>by simp only[B8,Nat.add_zero];grind
 | m+1=>by
  rw[<-Nat.add_assoc,B8,TT f p m,B8];grind
theorem oP {f:Nat->Rat} (h : ∀ j,0<=f j) (m d:Nat):B8 f m<=B8 f (m+d):=by
 rw[TT];have:=oQ (f:=λ j=>f (m+j)) (λ j=>h _) d
 grind
theorem bY {f:Nat->Rat} {c:Rat} : ∀ n,B8 (λ j=>c*f j) n=c*B8 f n
 | 0=>by simp only[B8];grind
 | n+1=>by simp only[B8,bY n];grind
theorem Ks {g:Nat->Rat} {p:Nat} (h0 : ∀ j,0<=g j) (h : ∀ j,g (p+j)<=(1/2)*g j) (m:Nat):B8 g (p+m)<=2*B8 g p:=by
 have h1:B8 (λ j=>g (p+j)) m<=B8 (λ j=>(1/2)*g j) m:=bZ m λ j _=>h j
 rw[bY]at h1;have h2:=TT g p m;have h3:B8 g m<=B8 g (p+m):=by rw[Nat.add_comm];exact oP h0 m p
 grind
def E3 (a:List (List Rat)) (b:List Rat) (k:Nat):Rat:=B3 (ED a b k)
def EY (a:List (List Rat)) (b c:List Rat) (k:Nat):Rat:=BM (A6 c (ED a b k))
def GK (S:CR) (p:Nat):Rat:=BM S.d+(B8 (EY S.a S.b S.c) (p+p)+A8 S.c*B8 (λ j=>E3 S.a S.b (p+j)) p)
theorem Ly (a:List (List Rat)) (b c:List Rat) (k:Nat):EY a b c k<=A8 c*E3 a b k:=YB c _ _ (SZ _) λ_ hx=>kA hx
theorem Md {n:Nat} {a:List (List Rat)} {b:List Rat} (ha:Sq n a) (hb:b.length=n) {i:Nat} (hc:DF (BU n a i)=true) (j:Nat):E3 a b (2^i+j)<=(1/2)*E3 a b j:=by
 rw[E3,E3,Nat.add_comm,cH,<-bR ha i _ (WX ha.l hb j)];exact Qf (by grind) (uW hc) _
theorem kI {n:Nat} {S:CR} (ha:Sq n S.a) (hb:S.b.length=n) {i:Nat} (hc:DF (BU n S.a i)=true) (m:Nat):BM S.d+B8 (EY S.a S.b S.c) m<=GK S (2^i):=by
 have hf : ∀ j,0<=EY S.a S.b S.c j:=λ j=>UN _
 have hg : ∀ j,0<=E3 S.a S.b j:=λ j=>SZ _
 have hz:=aZ S.c;have key:B8 (EY S.a S.b S.c) m<=B8 (EY S.a S.b S.c) (2^i+2^i)+A8 S.c*B8 (λ j=>E3 S.a S.b (2^i+j)) (2^i):=by
  generalize hp:2^i=p at *;have h1:B8 (EY S.a S.b S.c) m<=B8 (EY S.a S.b S.c) ((p+p)+m):=by
   rw[Nat.add_comm];exact oP hf m (p+p)
  rw[TT _ (p+p) m]at h1;have h2:B8 (λ j=>EY S.a S.b S.c (p+p+j)) m<=B8 (λ j=>A8 S.c*E3 S.a S.b (p+(p+j))) m:=bZ m λ j _=>by
   rw[<-Nat.add_assoc];exact Ly _ _ _ _
  rw[bY (f:=λ j=>E3 S.a S.b (p+(p+j)))]at h2;have h3:=Ks (g:=λ j=>E3 S.a S.b (p+j)) (p:=p) (λ j=>hg _) (λ j=>by
   have:=Md ha hb hc (p+j)
   rw[hp]at this;exact this) m
  rw[TT (λ j=>E3 S.a S.b (p+j)) p m]at h3;have h4:B8 (λ j=>E3 S.a S.b (p+(p+j))) m<=B8 (λ j=>E3 S.a S.b (p+j)) p:=by grind
  have h5:=Rat.mul_le_mul_of_nonneg_left h4 hz;grind
 rw[GK];exact XA Rat.le_refl key
theorem tX {k:Nat} {x:Rat} {S:Nat} (hS:0<S) (oc:S<=2^k) (h:Wh k (x*(S:Rat))):Bt k x:=by
 obtain ⟨z,hz,hk⟩:=h;have h0:(S:Rat)≠0:=λ e=>by
  have:((S:Nat):Rat)=((0:Nat):Rat):=e
  have:=Rat.natCast_inj.1 this
  omega
 have e:x=mkRat z S:=by
  rw[Rat.mkRat_eq_div,<-hz,Rat.div_def,Rat.mul_assoc,Rat.mul_inv_cancel _ h0,Rat.mul_one]
 rw[e];exact Bt.mk hk oc
theorem Rn {k l n:Nat} {a:List (List Rat)} {v:List Rat} (ha : ∀ r∈a,∀ x∈r,Wh k x) (hl : ∀ r∈a,r.length=n) (hv : ∀ x∈v,Wh l x) : ∀ x∈DP a v,Wh (k+l+n) x:=λ x hx=>by
 obtain ⟨r,hr,rfl⟩:=List.mem_map.1 hx;have:=Wh.dot (ha r hr) hv
 rwa [hl r hr]at this
theorem bH {n k:Nat} {a:List (List Rat)} (hs:Sq n a) (hb:Ms k a) : ∃ S:Nat,HW a.flatten=(S:Rat)/\0<S/\S<=2^(n*n*k) /\ ∀ r∈B7 (S:Rat) a,∀ x∈r,Wh (k+n*n*k) x:=by
 have hl:a.flatten.length=n*n:=by
  have : ∀ (a:List (List Rat)),(∀ r∈a,r.length=n)->a.flatten.length=a.length*n:=by
   intro a;induction a with
   | nil=>intro _;simp
   | cons r a ih =>
    intro h;rw[List.flatten_cons,List.length_append,ih λ x hx=>h x (List.mem_cons_of_mem _ hx),h r List.mem_cons_self,List.length_cons,Nat.succ_mul,Nat.add_comm]
  rw[this a hs.r,hs.l]
 have Ui:Bs k a.flatten:=λ x hx=>by
  obtain ⟨r,hr,hx⟩:=List.mem_flatten.1 hx;exact hb r hr x hx
 obtain ⟨S,e,h1,h2,h3⟩:=aT Ui;rw[hl]at h2;refine ⟨S,e,h1,h2,λ r hr x hx => ?_⟩;obtain ⟨s,hs,rfl⟩:=List.mem_map.1 hr;obtain ⟨y,hy,rfl⟩:=List.mem_map.1 hx;obtain ⟨z,hz⟩:=h3 y (List.mem_flatten.2 ⟨s,hs,hy⟩);exact pG (hb s hs y hy) hz h2
theorem ZN {n k:Nat} {b:List Rat} (hl:b.length=n) (hb:Bs k b) : ∃ S:Nat,HW b=(S:Rat)/\0<S/\S<=2^(n*k) /\ ∀ x∈b.map (· * (S:Rat)),Wh (k+n*k) x:=by
 obtain ⟨S,e,h1,h2,h3⟩:=aT hb;rw[hl]at h2;refine ⟨S,e,h1,h2,λ x hx => ?_⟩;obtain ⟨y,hy,rfl⟩:=List.mem_map.1 hx;obtain ⟨z,hz⟩:=h3 y hy;exact pG (hb y hy) hz h2
def DR (a:List (List Rat)) (b:List Rat) (D E:Rat) (j:Nat):List Rat:=(ED a b j).map (· * (E*D^j))
theorem pM (a:List (List Rat)) (b:List Rat) (D E:Rat):DR a b D E 0=b.map (· * E):=by
 rw[DR,Rat.pow_zero,Rat.mul_one];rfl
theorem pL (a:List (List Rat)) (b:List Rat) (D E:Rat) (j:Nat):DR a b D E (j+1)=DP (B7 D a) (DR a b D E j):=by
 rw[DR,DR,Qe,ED];refine List.map_congr_left λ x _ => ?_
 rw[Rat.pow_succ];grind
def QH (n k j:Nat):Nat:=(k+n*k)+j*((k+n*n*k)+n)
theorem cL {n k:Nat} {a:List (List Rat)} {b:List Rat} {D E:Nat} (hs:Sq n a) (hA : ∀ r∈B7 (D:Rat) a,∀ x∈r,Wh (k+n*n*k) x) (hB : ∀ x∈b.map (· * (E:Rat)),Wh (k+n*k) x) : ∀ j,∀ x∈DR a b D E j,Wh (QH n k j) x
 | 0=>by
  rw[pM];intro x hx;exact (hB x hx).le (by rw[QH];omega)
 | j+1=>by
  rw[pL];intro x hx;refine (Rn hA (WG _ hs.r) (cL hs hA hB j) x hx).le ?_;simp only[QH,Nat.succ_mul];omega
theorem Qt (D j:Nat):(D:Rat)^j=((D^j:Nat):Rat):=by
 induction j with
 | zero=>rfl
 | succ j ih=>rw[Rat.pow_succ,ih,Nat.pow_succ,Rat.natCast_mul]
theorem pF {n k:Nat} {a:List (List Rat)} {b:List Rat} (hs:Sq n a) (hb:b.length=n) (ha:Ms k a) (my:Bs k b) (j:Nat):Bs (QH n k j) (ED a b j):=by
 obtain ⟨D,_,d1,d2,d3⟩:=bH hs ha;obtain ⟨E,_,e1,e2,e3⟩:=ZN hb my;have hw:=cL hs d3 e3 j;intro x hx;refine tX (S:=E*D^j) (Nat.mul_pos e1 (Nat.pow_pos d1)) ?_ ?_
 ·have h1:D^j<=2^(n*n*k*j):=by rw[Nat.pow_mul];exact Nat.pow_le_pow_left d2 j
  refine Nat.le_trans (Nat.mul_le_mul e2 h1) ?_;rw[<-Nat.pow_add];refine Nat.pow_le_pow_right (by omega) ?_;rw[QH,Nat.mul_add,Nat.mul_add,Nat.mul_comm (n*n*k) j];omega
 ·refine hw _ (List.mem_map.2 ⟨x,hx,?_⟩)
  rw[Qt,Rat.natCast_mul]
def HY (n:Nat) (a:List (List Rat)) (i:Nat):Prop:=DF (BU n a i)=true /\ ∀ j,j<i->DF (BU n a j)=false
theorem HY.uniq {n i j:Nat} {a:List (List Rat)} (hi:HY n a i) (hj:HY n a j):i=j:=by
 rcases Nat.lt_trichotomy i j with h|h|h
 ·have:=hj.2 i h
  rw[hi.1]at this;cases this
 ·exact h
 ·have:=hi.2 j h
  rw[hj.1]at this;cases this
def ER (k:Nat):Nat->Nat
 | 0=>k
 | i+1=>4*(ER k i+ER k i+1)
theorem Sh {k:Nat} : ∀ i,i<=7->ER k i<=2097152*k+1198372:=by
 intro i hi;have h1:ER k 0=k:=rfl;have e1:ER k 1=4*(ER k 0+ER k 0+1):=rfl;have e2:ER k 2=4*(ER k 1+ER k 1+1):=rfl;have e3:ER k 3=4*(ER k 2+ER k 2+1):=rfl;have e4:ER k 4=4*(ER k 3+ER k 3+1):=rfl;have e5:ER k 5=4*(ER k 4+ER k 4+1):=rfl;have e6:ER k 6=4*(ER k 5+ER k 5+1):=rfl;have e7:ER k 7=4*(ER k 6+ER k 6+1):=rfl;obtain rfl|rfl|rfl|rfl|rfl|rfl|rfl|rfl:i=0\/i=1\/i=2\/i=3\/i=4\/i=5\/i=6\/i=7:=by omega
 all_goals omega
theorem bQ {n k:Nat} {a:List (List Rat)} (hs:Sq n a) (ha:Ms k a) (hn:n<=4) : ∀ i,Ms (ER k i) (BU n a i)
 | 0=>ha
 | i+1=>(Ms.mul (bQ hs ha hn i) (N2 hs i) (bQ hs ha hn i)).le (Nat.mul_le_mul_right _ hn)
def EM (k:Nat):Nat->Nat
 | 0=>17*k
 | i+1=>EM k i+EM k i+4
theorem Rs {k:Nat} : ∀ i,i<=7->EM k i<=2176*k+508:=by
 intro i hi;have h1:EM k 0=17*k:=rfl;have e1:EM k 1=EM k 0+EM k 0+4:=rfl;have e2:EM k 2=EM k 1+EM k 1+4:=rfl;have e3:EM k 3=EM k 2+EM k 2+4:=rfl;have e4:EM k 4=EM k 3+EM k 3+4:=rfl;have e5:EM k 5=EM k 4+EM k 4+4:=rfl;have e6:EM k 6=EM k 5+EM k 5+4:=rfl;have e7:EM k 7=EM k 6+EM k 6+4:=rfl;obtain rfl|rfl|rfl|rfl|rfl|rfl|rfl|rfl:i=0\/i=1\/i=2\/i=3\/i=4\/i=5\/i=6\/i=7:=by omega
 all_goals omega
theorem Rm {k l n:Nat} {a b:List (List Rat)} (ha : ∀ r∈a,∀ x∈r,Wh k x) (hl : ∀ r∈a,r.length=n) (hb : ∀ r∈b,∀ x∈r,Wh l x) : ∀ r∈FC a b n,∀ x∈r,Wh (k+l+n) x:=λ r hr x hx=>by
 obtain ⟨s,hs,rfl⟩:=List.mem_map.1 hr;obtain ⟨j,_,rfl⟩:=List.mem_map.1 hx;have hc : ∀ x∈CW b j,Wh l x:=λ x hx=>by
  obtain ⟨t,ht,rfl⟩:=List.mem_map.1 hx;rw[List.getD_eq_getElem?_getD];cases e:t[j]? with
  | none=>exact Wh.zero l
  | some y=>exact hb t ht y (zM e)
 have:=Wh.dot (ha s hs) hc
 rwa [hl s hs]at this
theorem bS {n k:Nat} {a:List (List Rat)} {D:Nat} (hs:Sq n a) (hn:n<=4) (hA : ∀ r∈B7 (D:Rat) a,∀ x∈r,Wh (k+n*n*k) x) : ∀ i,∀ r∈B7 (DN (D:Rat) i) (BU n a i),∀ x∈r,Wh (EM k i) x
 | 0=>λ r hr x hx=>(hA r hr x hx).le (by
   show k+n*n*k<=17*k;have:n*n<=4*4:=Nat.mul_le_mul hn hn
   have:=Nat.mul_le_mul_right k this
   omega)
 | i+1=>λ r hr x hx=>by
  rw[<-oF]at hr;exact (Rm (bS hs hn hA i) (WG _ (N2 hs i).r) (bS hs hn hA i) r hr x hx).le (by simp only[EM];omega)
theorem X8 {D M:Nat} (hD:D<=2^M) : ∀ i,Wh (2^i*M) (DN (D:Rat) i)
 | 0=>⟨(D:Int),by rw[DN,Rat.intCast_natCast],by rw[Nat.pow_zero,Nat.one_mul];simpa using hD⟩
 | i+1=>((X8 hD i).mul (X8 hD i)).le (by rw[Nat.pow_succ,Nat.mul_two,Nat.add_mul];exact Nat.le_refl _)
theorem uX {n i:Nat} {a:List (List Rat)} {D:Rat} (hD:0<D):(∀ r∈B7 (DN D i) (BU n a i),A8 r+A8 r<=DN D i)↔DF (BU n a i)=true:=by
 have hp:=X7 hD i;rw[uV];constructor
 ·intro h r hr
  have:=h _ (List.mem_map.2 ⟨r,hr,rfl⟩)
  rw[WF (by grind)]at this;exact (kD hp).1 this
 ·intro h r hr
  obtain ⟨s,hs,rfl⟩:=List.mem_map.1 hr;rw[WF (by grind)];exact (kD hp).2 (h s hs)
theorem M5 {k:Nat} : ∀ {l:List Rat},Bs k l->Bt (l.length*(k+1)) (A8 l)
 | [],_=>Bt.zero _
 | x::l,h=>by
  have h1:=M5 (l:=l) λ y hy=>h y (List.mem_cons_of_mem _ hy)
  have h2:Bt k (BM x):=by
   unfold BM;split
   ·exact (h x List.mem_cons_self).Bg
   ·exact h x List.mem_cons_self
  refine (h2.add h1).le ?_;rw[List.length_cons,Nat.succ_mul];omega
theorem HG {k:Nat} {x:Rat} (h:Bt k x):Bt k (BM x):=by
 unfold BM;split
 ·exact h.Bg
 ·exact h
theorem Ke {k:Nat} {m x:Rat} (hm:Bt k m) (hx:Bt k x):Bt k (F2 m x):=by
 unfold F2;split
 ·exact HG hx
 ·exact hm
theorem NP {k:Nat} {l:List Rat} (h:Bs k l):Bt k (B3 l):=by
 have : ∀ (l:List Rat) (m:Rat),Bt k m->Bs k l->Bt k (l.foldl F2 m):=by
  intro l;induction l with
  | nil=>intro m hm _;exact hm
  | cons x l ih =>
   intro m hm h;exact ih _ (Ke hm (h x List.mem_cons_self)) λ y hy=>h y (List.mem_cons_of_mem _ hy)
 exact this l 0 (Bt.zero k) h
theorem aC (D:Rat) (a:Nat) : ∀ b:Nat,D^(a+b)=D^a*D^b
 | 0=>by rw[Nat.add_zero,Rat.pow_zero,Rat.mul_one]
 | b+1=>by rw[<-Nat.add_assoc,Rat.pow_succ,aC D a b,Rat.pow_succ,Rat.mul_assoc]
def D6 (D:Rat) (f:Nat->Rat):Nat->Rat
 | 0=>0
 | m+1=>D6 D f m*D+f m
theorem ZG {D c:Rat} {f F:Nat->Rat} (h : ∀ j,f j=F j*(c*D^j)) : ∀ m,D6 D f m*D=c*D^m*B8 F m
 | 0=>by simp only[D6,B8];grind
 | m+1=>by
  have:=ZG h m
  rw[D6,Rat.add_mul,this,h m,Rat.pow_succ,B8];grind
theorem S0 {D:Rat} {f:Nat->Rat} {d k:Nat} (hD:Bt d D) : ∀ m,(∀ j,j<m->Bt k (f j))->Bt (m*(d+k+1)) (D6 D f m)
 | 0,_=>Bt.zero _
 | m+1,h=>by
  have h1:=S0 hD m λ j hj=>h j (by omega)
  refine ((h1.mul hD).add (h m (by omega))).le ?_;rw[Nat.succ_mul];omega
theorem Rv {a:List (List Rat)} {b:List Rat} {D E:Rat} (hD:0<D) (hE:0<E) (j:Nat):B3 (DR a b D E j)=E3 a b j*(E*D^j):=Ki (Rat.mul_pos hE (by
 induction j with
 | zero=>rw[Rat.pow_zero];decide
 | succ j ih=>rw[Rat.pow_succ];exact Rat.mul_pos ih hD)) _
theorem Qy {S:CR} {D E O:Rat} {p:Nat} (hp:1<=p) (hD:0<D) (hE:0<E) (hO:0<O) :
  (D6 D (λ j=>BM (A6 (S.c.map (· * O)) (DR S.a S.b D E j))) (p+p)+A8 (S.c.map (· * O))*D6 D (λ j=>B3 (DR S.a S.b D E (p+j))) p)/(D^(p+p-1)*(E*O))=B8 (EY S.a S.b S.c) (p+p)+A8 S.c*B8 (λ j=>E3 S.a S.b (p+j)) p:=by
 have Ah : ∀ j:Nat,0<D^j:=λ j=>by
  induction j with
  | zero=>rw[Rat.pow_zero];decide
  | succ j ih=>rw[Rat.pow_succ];exact Rat.mul_pos ih hD
 have h1:=ZG (D:=D) (c:=O*E) (f:=λ j=>BM (A6 (S.c.map (· * O)) (DR S.a S.b D E j))) (F:=EY S.a S.b S.c) (λ j=>by
  show BM (A6 (S.c.map (· * O)) (DR S.a S.b D E j))=_;rw[DR,YA,UM,EY,UO (show 0<=O*(E*D^j) from by have:=Rat.mul_pos hO (Rat.mul_pos hE (Ah j));grind)];grind) (p+p)
 have h2:=ZG (D:=D) (c:=E*D^p) (f:=λ j=>B3 (DR S.a S.b D E (p+j))) (F:=λ j=>E3 S.a S.b (p+j)) (λ j=>by
  show B3 (DR S.a S.b D E (p+j))=_;rw[Rv hD hE,aC];grind) p
 have h3:A8 (S.c.map (· * O))=A8 S.c*O:=WF (by grind) _;generalize D6 D (λ j=>BM (A6 (S.c.map (· * O)) (DR S.a S.b D E j))) (p+p)=u at *;generalize D6 D (λ j=>B3 (DR S.a S.b D E (p+j))) p=t at *;generalize B8 (EY S.a S.b S.c) (p+p)=F at *;generalize B8 (λ j=>E3 S.a S.b (p+j)) p=G at *;rw[h3];have h4:D^(p+p)=D^(p+p-1)*D:=by rw[<-Rat.pow_succ];congr 1;omega
 have h5:D^(p+p)=D^p*D^p:=aC _ _ _;have hq:=Ah (p+p-1);have hz:=Ah p;generalize D^(p+p-1)=L at *;generalize D^(p+p)=M at *;generalize D^p=P at *;have k8:L*(E*O)≠0:=by
  have:=Rat.mul_pos hq (Rat.mul_pos hE hO)
  grind
 have key:(u+A8 S.c*O*t)*D=(F+A8 S.c*G)*(L*(E*O))*D:=by
  have e1:u*D=O*E*(L*D)*F:=by rw[h1,h4]
  have e2:t*D=E*(L*D)*G:=by rw[h2,<-h4,h5];grind
  have:(u+A8 S.c*O*t)*D=u*D+A8 S.c*O*(t*D):=by grind
  rw[this,e1,e2];grind
 have Tk:D≠0:=by grind
 have:=Acc Tk key
 rw[this,Rat.div_def,Rat.mul_assoc,Rat.mul_inv_cancel _ k8,Rat.mul_one]
end Go.c4

namespace Go.c4
open F
attribute [local irreducible] AA AF AU AC B6 AQ AX A9 A4 BS AP BR B0 C2 BN A0 BK B2 AB A5 AJ pw CG B4 CM CZ CU CP CN BJ B9
variable {L:Lib}
set_option maxHeartbeats 16000000
set_option maxRecDepth 8000
theorem XZ {k:Nat} {x:Rat} (h:Bt k x):Bt k ((x.den:Nat):Rat):=by
 refine ⟨?_,?_⟩
 ·rw[Rat.num_natCast,Int.natAbs_natCast];exact h.2
 ·rw[Rat.den_natCast];exact Nat.one_le_two_pow
theorem vM (x:Rat):((x.den:Nat):Rat)≠0:=λ e=>by
 have:((x.den:Nat):Rat)=((0:Nat):Rat):=e
 have:=Rat.natCast_inj.1 this
 have:=x.den_pos
 omega
theorem iS (N:n7 L) {x:Rat} {k:Nat} (hx:Bt k x) (hk:k<2199023255552):Ev L 294 [.agg (eQ x)] (.agg (eQ ((x.den:Nat):Rat))):=by
 have hT:=YX N.toa7 hx hk;have n6:=C4 ((x.den:Nat):Rat);have e:eQ ((x.den:Nat):Rat)=[.bool false,.sl false ((dg x.den).map AL),.sl false [[.int .u32 1]]]:=by
  rw[<-Rat.intCast_natCast,xX,Int.natAbs_natCast,show decide (((x.den:Nat):Int)<0)=false by simp]
 rw[e]at n6 ⊢;refine Ev.x N.KP rfl rfl ?_;(repeat' ((first|refine H1 rfl ?_|apply AE|refine AD (hT) ?_)<;>conv=>whnf))
 exact AW rfl n6
theorem YN (N:n7 L) (q q':Bool) (ls:List (List Rat)) (k:Nat) (hb:Ms k ls) (hl:ls.flatten.length<=64) (qj:ls.length<=1000) (hk:k<=1000000):Ev L 295 [.sl q (G5 q' ls)] (.agg (eQ (HW ls.flatten))):=by
 have hO:=HL N.toa7 1 (by omega);rw[show ((1:Int):Rat)=1 from rfl]at hO;have key : ∀ (i j:Nat) (r:List Rat) (x:Rat),ls[i]? = some r->r[j]? = some x -> ∃ S:Nat,HW ((ls.take i).flatten++r.take j)=(S:Rat)/\Bt (64*k) (S:Rat)/\HW ((ls.take i).flatten++r.take (j+1))=(S:Rat)*(((S:Rat)/((x.den:Nat):Rat)).den:Nat):=by
  intro i j r x hr hx;have bp:=(zS hx).1;have hlen:((ls.take i).flatten++r.take j).length<=64:=by
   have e:ls.flatten=(ls.take i).flatten++(r++(ls.drop (i+1)).flatten):=by
    have h1:=(zS hr);obtain ⟨h1,h2⟩:=h1;conv=>lhs;rw[<-List.take_append_drop i ls,List.flatten_append,List.drop_eq_getElem_cons h1,h2,List.flatten_cons]
   rw[e,List.length_append,List.length_append]at hl;rw[List.length_append,List.length_take];omega
  have Ho:Bs k ((ls.take i).flatten++r.take j):=λ y hy=>by
   rcases List.mem_append.1 hy with hy|hy
   ·obtain ⟨s,hs,hy⟩:=List.mem_flatten.1 hy
    exact hb s (List.mem_of_mem_take hs) y hy
   ·exact hb r (zM hr) y (List.mem_of_mem_take hy)
  obtain ⟨S,e,h1,h2,_⟩:=aT Ho;refine ⟨S,e,⟨?_,?_⟩,?_⟩
  ·rw[Rat.num_natCast,Int.natAbs_natCast]
   exact Nat.le_trans h2 (Nat.pow_le_pow_right (by omega) (Nat.mul_le_mul_right k hlen))
  ·rw[Rat.den_natCast];exact Nat.one_le_two_pow
  ·rw[List.take_add_one,hx,Option.toList_some,<-List.append_assoc,Pg,e,TM,vN]
 refine Ev.x N.KN rfl rfl ?_;(repeat' ((first|apply AR|apply AE|refine AD (hO) ?_)<;>conv=>whnf))
 refine CK (λ i=>ls.length-i) (λ(i:Nat)=>i<=ls.length) (λ i=>[(13,.int .i64 i)]) (λ i=>[(3,3,.bx (eQ (HW (ls.take i).flatten)))]) [] [] 0 (by rw[show HW (ls.take 0).flatten=1 from rfl];exact (by (conv=>whnf);exact ⟨rfl,rfl,rfl⟩)) (by omega) ?_;intro i p1 ih;by_cases hi:i<ls.length
 ·obtain ⟨r,hr⟩ : ∃ r,ls[i]? = some r:=⟨_,zE hi⟩
  have lq:ls[(i:Int).toNat]? = some r:=hr;have ql:=hb r (zM hr);have df:r.length<=64:=by
   have e:ls.flatten=(ls.take i).flatten++(r++(ls.drop (i+1)).flatten):=by
    obtain ⟨h1,h2⟩:=zS hr;conv=>lhs;rw[<-List.take_append_drop i ls,List.flatten_append,List.drop_eq_getElem_cons h1,h2,List.flatten_cons]
   rw[e,List.length_append,List.length_append]at hl;omega
  have cn:(ls.take (i+1)).flatten=(ls.take i).flatten++r:=by
   rw[List.take_add_one,hr,List.flatten_append];simp
  (repeat' ((first|(apply AG<;>intro hc<;>try (exfalso;omega))|apply AR|(refine BG (by assumption) ?_ rfl ?_;omega)|apply AE)<;>conv=>whnf))
  refine CK (λ j=>r.length-j) (λ(j:Nat)=>j<=r.length) (λ j=>[(19,.int .i64 j)]) (λ j=>[(3,3,.bx (eQ (HW ((ls.take i).flatten++r.take j))))]) [] [] 0 (by rw[List.take_zero,List.append_nil];exact (by (conv=>whnf);exact ⟨rfl,rfl,rfl⟩)) (by omega) ?_;intro j r1 jh;by_cases hj:j<r.length
  ·obtain ⟨x,hx⟩ : ∃ x,r[j]? = some x:=⟨_,zE hj⟩
   have jf:r[(j:Int).toNat]? = some x:=hx;obtain ⟨S,e,hS,e2⟩:=key i j r x hr hx;have Co:=ql.at hx;have mc:=iS N Co (by omega);have hq:=hS.yj (XZ Co);have Di:=iH N.toa7 hS (XZ Co) (by omega) (by omega) (vM x);have me:=iS N hq (by omega);have hM:=I7 N.toa7 hS (XZ hq) (by omega) (by omega);rw[<-e2]at hM;rw[e];generalize (S:Rat)/((x.den:Nat):Rat)=y at *;generalize ((x.den:Nat):Rat)=d at *;generalize (S:Rat)=s at *;generalize ((y.den:Nat):Rat)=d2 at *;(repeat' ((first|(apply AG<;>intro hc<;>try (exfalso;omega))|(apply AY;omega)|(refine BG (by assumption) ?_ rfl ?_;omega)|apply AE|refine AD (mc) ?_|refine AD (Di) ?_|refine AD (me) ?_|refine AD (hM) ?_)<;>conv=>whnf))
   exact BQ [] (jh (j+1) (by omega) (by omega))
  obtain rfl:j=r.length:=by omega
  clear jh;rw[List.take_of_length_le (Nat.le_refl _),<-cn];(repeat' ((first|(apply AG<;>intro hc<;>try (exfalso;omega))|(apply AY;omega)|apply AE)<;>conv=>whnf))
  exact BQ [] (ih (i+1) (by omega) (by omega))
 obtain rfl:i=ls.length:=by omega
 clear ih;rw[List.take_of_length_le (Nat.le_refl _)];(repeat' ((first|(apply AG<;>intro hc<;>try (exfalso;omega))|apply AE)<;>conv=>whnf))
 exact AW rfl (C4 _)
theorem YO (N:n7 L) (q:Bool) (v:List Rat) (c:Rat) (k l:Nat) (hv:Bs k v) (hc:Bt l c) (hk:k<1099511627776) (hl:l<1099511627776) (hn:v.length<=1000000):Ev L 296 [.sl q (v.map eQ),.agg (eQ c)] (.sl false ((v.map (· * c)).map eQ)):=by
 refine Ev.x N.KW rfl rfl ?_;(repeat' ((first|apply AR|apply AE)<;>conv=>whnf))
 refine ET (enc:=eO) none v.length rfl rfl (by omega) ?_;(conv=>whnf)
 (repeat' (apply AR<;>conv=>whnf))
 refine CK (λ i=>v.length-i) (λ(i:Nat)=>i<=v.length) (λ i=>[(12,.int .i64 i)]) (λ i=>[(9,9,.rw 3 ((FB ((v.map (· * c)).take i) v.length).map eO))]) [] [] 0 (by first|exact (by (conv=>whnf);exact ⟨rfl,rfl,rfl⟩)|(rw[List.take_zero,<-OM];exact (by (conv=>whnf);exact ⟨rfl,rfl,rfl⟩))) (by omega) ?_;intro i p1 ih;have im:((v.map (· * c)).take i).length=i:=by rw[List.length_take,List.length_map];omega
 have Vk:=OL (l:=(v.map (· * c)).take i) (m:=v.length) (by omega);by_cases hi:i<v.length
 ·obtain ⟨x,hx⟩ : ∃ x,v[i]? = some x:=⟨_,zE hi⟩
  have jf:v[(i:Int).toNat]? = some x:=hx;have hy:(v.map (· * c))[i]? = some (x*c):=by rw[List.getElem?_map,hx];rfl
  have hs:=ON (l:=(v.map (· * c)).take i) (m:=v.length) (x:=x*c) (by omega);rw[im,<-HC hy]at hs;have hM:=I7 N.toa7 (hv.at hx) hc (by omega) (by omega);generalize FB ((v.map (· * c)).take i) v.length=F0 at *;generalize x*c=y at *;(repeat' ((first|(apply AG<;>intro hc<;>try (exfalso;omega))|(apply BA;omega)|(refine BG (by assumption) ?_ rfl ?_;omega)|apply AE|refine AD (hM) ?_)<;>conv=>whnf))
  refine I3 (enc:=eO) (some y) rfl (λ e=>by cases e<;>rfl) (by omega) ?_;(conv=>whnf)
  rw[hs];(repeat' ((first|(apply AY;omega)|fail)<;>conv=>whnf))
  exact BQ [] (ih (i+1) (by omega) (by omega))
 obtain rfl:i=v.length:=by omega
 clear ih;have pd:(v.map (· * c)).length=v.length:=List.length_map _;rw[List.take_of_length_le (by omega),OK pd];(repeat' ((first|(apply AG<;>intro hc<;>try (exfalso;omega))|(refine DE (λ_=>rfl) rfl ?_ ?_;(first|rfl|simp))|apply AE)<;>conv=>whnf))
 exact AW rfl (by simp only[A1,true_and];exact IG _)
abbrev NK (q:Bool) (x:Rat):List AV:=rQ q q (decide (x.num<0)) (dg x.num.natAbs) (dg x.den)
theorem Ls (N:a7 L) (q:Bool) {x:Rat} {k:Nat} (hx:Bt k x) (hk:k<2199023255552):Ev L 97 [.agg (NK q x)] (.int .i64 (o5 x.num)):=by
 have hs:=hx.sm hk;have:=jG N (decide (x.num<0)) q q (dg x.num.natAbs) (dg x.den) (hs.1.le (by omega)) (hs.2.le (by omega))
 rwa [EP]at this
theorem iO (N:a7 L) (q:Bool) {x y:Rat} {k l:Nat} (hx:Bt k x) (hy:Bt l y) (hk:k<2199023255552) (hl:l<2199023255552):Ev L 99 [.agg (eQ x),.agg (NK q y)] (.agg (eQ (x*y))):=by
 have h1:=hx.sm hk;have h2:=hy.sm hl;have:=jF N 68719476736 (by omega) (decide (x.num<0)) (decide (y.num<0)) false false q q (dg x.num.natAbs) (dg x.den) (dg y.num.natAbs) (dg y.den) h1.1 h1.2 h2.1 h2.2
 rwa [EP,EP]at this
theorem iU (N:n7 L) (q1 q2 qb:Bool) (a b:List Rat) (k l:Nat) (hl:a.length=b.length) (ha:Bs k a) (hb:Bs l b) (hn:a.length<=64) (hk:k<=1000000000) (fh:l<=1000000000):Ev L 297 [.sl q1 (a.map eQ),.sl q2 (b.map (NK qb))] (.agg (eQ (A6 a b))):=by
 have hO:=HL N.toa7 0 (by omega);rw[show ((0:Int):Rat)=0 from rfl]at hO;refine Ev.x N.KQ rfl rfl ?_;(repeat' ((first|apply AR|apply AE|refine AD (hO) ?_)<;>conv=>whnf))
 refine CK (λ i=>a.length-i) (λ(i:Nat)=>i<=a.length) (λ i=>[(10,.int .i64 i)]) (λ i=>[(5,5,.bx (eQ (A6 (a.take i) (b.take i))))]) [] [] 0 (by rw[show A6 (a.take 0) (b.take 0)=0 from rfl];exact (by (conv=>whnf);exact ⟨rfl,rfl,rfl⟩)) (by omega) ?_;intro i p1 ih;by_cases hi:i<a.length
 ·obtain ⟨x,hx⟩ : ∃ x,a[i]? = some x:=⟨_,zE hi⟩
  obtain ⟨y,hy⟩ : ∃ y,b[i]? = some y:=⟨_,zE (by omega)⟩;have jf:a[(i:Int).toNat]? = some x:=hx;have qo:b[(i:Int).toNat]? = some y:=hy;have kp:=QZ N.toa7 (ha.at hx) (by omega);have oc:=Ls N.toa7 qb (hb.at hy) (by omega);have hM:=iO N.toa7 qb (ha.at hx) (hb.at hy) (by omega) (by omega);have hd:Bt (64*(k+l+1)) (A6 (a.take i) (b.take i)):=by
   refine ((ha.take i).dot (hb.take i)).le (Nat.mul_le_mul_right _ ?_);rw[List.length_take];omega
  have hA:=MX N.toa7 hd ((ha.at hx).mul (hb.at hy)) (by omega) (by omega);rw[<-QR hx hy]at hA;have hz:x=0\/y=0->A6 (a.take i) (b.take i)=A6 (a.take (i+1)) (b.take (i+1)):=λ h=>by
   rw[QR hx hy];rcases h with h|h<;>rw[h]<;>grind
  by_cases h1:x=0
  ·have s1:o5 x.num=0:=N0.2 h1
   rw[s1]at kp;rw[hz (Or.inl h1)];clear hA hz hd;(repeat' ((first|(apply AG<;>intro hc<;>try (exfalso;omega))|(apply AY;omega)|(refine BG (by assumption) ?_ rfl ?_;omega)|apply AE|refine AD (kp) ?_)<;>conv=>whnf))
   exact BQ [] (ih (i+1) (by omega) (by omega))
  ·have s1:o5 x.num≠0:=λ h=>h1 (N0.1 h)
   generalize o5 x.num=g1 at *;by_cases h2:y=0
   ·have s2:o5 y.num=0:=N0.2 h2
    rw[s2]at oc;rw[hz (Or.inr h2)];clear hA hz hd;(repeat' ((first|(apply AG<;>intro hc<;>try (exfalso;omega))|(apply AY;omega)|(refine BG (by assumption) ?_ rfl ?_;omega)|apply AE|refine AD (kp) ?_|refine AD (oc) ?_)<;>conv=>whnf))
    exact BQ [] (ih (i+1) (by omega) (by omega))
   ·have s2:o5 y.num≠0:=λ h=>h2 (N0.1 h)
    generalize o5 y.num=g2 at *;clear hz hd;generalize A6 (a.take i) (b.take i)=w at *;generalize x*y=p at *;(repeat' ((first|(apply AG<;>intro hc<;>try (exfalso;omega))|(apply AY;omega)|(refine BG (by assumption) ?_ rfl ?_;omega)|apply AE|refine AD (kp) ?_|refine AD (oc) ?_|refine AD (hM) ?_|refine AD (hA) ?_)<;>conv=>whnf))
    exact BQ [] (ih (i+1) (by omega) (by omega))
 obtain rfl:i=a.length:=by omega
 clear ih;rw[SG rfl];(repeat' ((first|(apply AG<;>intro hc<;>try (exfalso;omega))|apply AE)<;>conv=>whnf))
 exact AW rfl (C4 _)
theorem iT (N:n7 L) (q1 q2:Bool) (a b:List Rat) (k l:Nat) (hl:a.length=b.length) (ha:Bs k a) (hb:Bs l b) (hn:a.length<=64) (hk:k<=1000000000) (fh:l<=1000000000):Ev L 297 [.sl q1 (a.map eQ),.sl q2 (b.map eQ)] (.agg (eQ (A6 a b))):=iU N q1 q2 false a b k l hl ha hb hn hk fh
theorem zK (N:n7 L) (q1 q2 q3:Bool) (a:List (List Rat)) (v:List Rat) (n k l:Nat) (hs:Sq n a) (hv:v.length=n) (ha:Ms k a) (hb:Bs l v) (hn:n<=4) (hk:k<=1000000000) (hl:l<=1000000000):Ev L 298 [.sl q1 (G5 q3 a),.sl q2 (v.map eQ)] (.sl false ((DP a v).map eQ)):=by
 have dw:=hs.l;have pd:(DP a v).length=n:=by rw[Z1];exact dw
 refine Ev.x N.KM rfl rfl ?_;(repeat' ((first|apply AR|apply AE)<;>conv=>whnf))
 refine ET (enc:=eO) none n rfl (by omega) (by omega) ?_;(conv=>whnf)
 (repeat' (apply AR<;>conv=>whnf))
 refine CK (λ i=>n-i) (λ(i:Nat)=>i<=n) (λ i=>[(12,.int .i64 i)]) (λ i=>[(9,9,.rw 3 ((FB ((DP a v).take i) n).map eO))]) [] [] 0 (by first|exact (by (conv=>whnf);exact ⟨rfl,rfl,rfl⟩)|(rw[List.take_zero,<-OM];exact (by (conv=>whnf);exact ⟨rfl,rfl,rfl⟩))) (by omega) ?_;intro i p1 ih;have im:((DP a v).take i).length=i:=by rw[List.length_take];omega
 have Vk:=OL (l:=(DP a v).take i) (m:=n) (by omega);by_cases hi:i<n
 ·obtain ⟨r,hr⟩ : ∃ r,a[i]? = some r:=⟨_,zE (by omega)⟩
  have lq:a[(i:Int).toNat]? = some r:=hr;have df:=hs.at hr;have hy:(DP a v)[i]? = some (A6 r v):=by rw[DP,List.getElem?_map,hr];rfl
  have j9:=ON (l:=(DP a v).take i) (m:=n) (x:=A6 r v) (by omega);rw[im,<-HC hy]at j9;have hD:=λ q q'=>iT N q q' r v k l (by omega) (ha.at hr) hb (by omega) hk hl
  generalize FB ((DP a v).take i) n=F0 at *;generalize A6 r v=y at *;(repeat' ((first|(apply AG<;>intro hc<;>try (exfalso;omega))|(apply BA;omega)|(refine BG (by assumption) ?_ rfl ?_;omega)|apply AE|refine AD (hD _ _) ?_)<;>conv=>whnf))
  refine I3 (enc:=eO) (some y) rfl (λ e=>by cases e<;>rfl) (by omega) ?_;(conv=>whnf)
  rw[j9];(repeat' ((first|(apply AY;omega)|fail)<;>conv=>whnf))
  exact BQ [] (ih (i+1) (by omega) (by omega))
 obtain rfl:i=n:=by omega
 clear ih;rw[List.take_of_length_le (by omega),OK pd];(repeat' ((first|(apply AG<;>intro hc<;>try (exfalso;omega))|apply AE)<;>conv=>whnf))
 refine DE (enc:=eQ) (λ_=>rfl) rfl pd.symm ?_;(conv=>whnf)
 exact AW rfl (by simp only[A1,true_and];exact IG _)
end Go.c4

namespace Go.c4
open F
attribute [local irreducible] AA AF AU AC B6 AQ AX A9 A4 BS AP BR B0 C2 BN A0 BK B2 AB A5 AJ pw CG B4 CM CZ CU CP CN BJ B9
variable {L:Lib} (n:Nt)
set_option maxHeartbeats 1000000
end Go.c4

namespace Go.c4
open F
attribute [local irreducible] AA AF AU AC B6 AQ AX A9 A4 BS AP BR B0 C2 BN A0 BK B2 AB A5 AJ pw CG B4 CM CZ CU CP CN BJ B9
variable {L:Lib}
set_option maxHeartbeats 4000000
end Go.c4

namespace Go.c4
open F
attribute [local irreducible] AA AF AU AC B6 AQ AX A9 A4 BS AP BR B0 C2 BN A0 BK B2 AB A5 AJ pw CG B4 CM CZ CU CP CN BJ B9
variable {L:Lib}
variable (b a:List Int) (d c:Wd)
variable {b a d c}
set_option maxHeartbeats 4000000
end Go.c4

namespace Go.c4
open F
attribute [local irreducible] AA AF AU AC B6 AQ AX A9 A4 BS AP BR B0 C2 BN A0 BK B2 AB A5 AJ pw CG B4 CM CZ CU CP CN BJ B9
variable {L:Lib}
set_option maxHeartbeats 8000000
end Go.c4

namespace Go.c4
open F
attribute [local irreducible] AA AF AU AC B6 AQ AX A9 A4 BS AP BR B0 C2 BN A0 BK B2 AB A5 AJ pw CG B4 CM CZ CU CP CN BJ B9
attribute [local irreducible] cO
variable {L:Lib}
set_option maxHeartbeats 8000000
end Go.c4

namespace Go.c4
open F
attribute [local irreducible] AA AF AU AC B6 AQ AX A9 A4 BS AP BR B0 C2 BN A0 BK B2 AB A5 AJ pw CG B4 CM CZ CU CP CN BJ B9
variable {L:Lib}
set_option maxHeartbeats 16000000
set_option maxRecDepth 8000
theorem bC {l:List Rat} {i:Nat} {x:Rat} (h:l[i]? = some x):A8 (l.take (i+1))=A8 (l.take i)+BM x:=by rw[HC h,nQ]
theorem iW (N:n7 L) (q:Bool) (v:List Rat) (k:Nat) (hv:Bs k v) (hn:v.length<=1000) (hk:k<=1000000000):Ev L 300 [.sl q (v.map eQ)] (.agg (eQ (A8 v))):=by
 have hO:=HL N.toa7 0 (by omega);rw[show ((0:Int):Rat)=0 from rfl]at hO;refine Ev.x N.KX rfl rfl ?_;(repeat' ((first|apply AR|apply AE|refine AD (hO) ?_)<;>conv=>whnf))
 refine CK (λ i=>v.length-i) (λ(i:Nat)=>i<=v.length) (λ i=>[(9,.int .i64 i)]) (λ i=>[(3,3,.bx (eQ (A8 (v.take i))))]) [] [] 0 (by rw[show A8 (v.take 0)=0 from rfl];exact (by (conv=>whnf);exact ⟨rfl,rfl,rfl⟩)) (by omega) ?_;intro i p1 ih;by_cases hi:i<v.length
 ·obtain ⟨x,hx⟩ : ∃ x,v[i]? = some x:=⟨_,zE hi⟩
  have jf:v[(i:Int).toNat]? = some x:=hx;have hA:=VE N.tou5 (hv.at hx) (by omega);have hz:Bt (1000*(k+1)) (A8 (v.take i)):=(M5 (hv.take i)).le (Nat.mul_le_mul_right _ (by rw[List.length_take];omega));have hP:=MX N.toa7 hz (HG (hv.at hx)) (by omega) (by omega);rw[<-bC hx]at hP;generalize A8 (v.take i)=w at *;generalize BM x=y at *;(repeat' ((first|(apply AG<;>intro hc<;>try (exfalso;omega))|(apply AY;omega)|(refine BG (by assumption) ?_ rfl ?_;omega)|apply AE|refine AD (hA) ?_|refine AD (hP) ?_)<;>conv=>whnf))
  exact BQ [] (ih (i+1) (by omega) (by omega))
 obtain rfl:i=v.length:=by omega
 clear ih;rw[List.take_of_length_le (Nat.le_refl _)];(repeat' ((first|(apply AG<;>intro hc<;>try (exfalso;omega))|apply AE)<;>conv=>whnf))
 exact AW rfl (C4 _)
theorem kB {l:List Rat} {i:Nat} {x:Rat} (h:l[i]? = some x):B3 (l.take (i+1))=F2 (B3 (l.take i)) x:=by rw[HC h,Kj]
theorem RH {x y:Rat}:0<o5 (x-y).num↔y<x:=by
 have h:=aU (x-y).num;have e1:(x-y).num<0↔x<y:=by rw[Z3];constructor<;>intro h<;>grind
 have e2:(x-y).num=0↔x=y:=by rw[Rat.num_eq_zero];constructor<;>intro h<;>grind
 rcases h with ⟨h1,h2⟩|⟨h1,h2⟩|⟨h1,h2⟩
 ·have:=e1.1 h2
  rw[h1];constructor
  ·intro h;omega
  ·intro h;grind
 ·have:=e2.1 h2
  rw[h1];constructor
  ·intro h;omega
  ·intro h;grind
 ·have h3 : ¬ x<y:=λ h=>by have:=e1.2 h;omega
  have h4 : ¬ x=y:=λ h=>by have:=e2.2 h;omega
  rw[h1];constructor
  ·intro _;grind
  ·intro _;omega
theorem zO (N:n7 L) (q:Bool) (v:List Rat) (k:Nat) (hv:Bs k v) (hn:v.length<=1000000) (hk:k<=1000000000000):Ev L 301 [.sl q (v.map eQ)] (.agg (eQ (B3 v))):=by
 have hO:=HL N.toa7 0 (by omega);rw[show ((0:Int):Rat)=0 from rfl]at hO;refine Ev.x N.KT rfl rfl ?_;(repeat' ((first|apply AR|apply AE|refine AD (hO) ?_)<;>conv=>whnf))
 refine CK (λ i=>v.length-i) (λ(i:Nat)=>i<=v.length) (λ i=>[(10,.int .i64 i)]) (λ i=>[(3,3,.bx (eQ (B3 (v.take i))))]) [] [] 0 (by rw[show B3 (v.take 0)=0 from rfl];exact (by (conv=>whnf);exact ⟨rfl,rfl,rfl⟩)) (by omega) ?_;intro i p1 ih;by_cases hi:i<v.length
 ·obtain ⟨x,hx⟩ : ∃ x,v[i]? = some x:=⟨_,zE hi⟩
  have jf:v[(i:Int).toNat]? = some x:=hx;have hA:=VE N.tou5 (hv.at hx) (by omega);have hC:=YJ N.too0 (HG (hv.at hx)) (NP (hv.take i)) (by omega) (by omega);have hg:=RH (x:=BM x) (y:=B3 (v.take i));have hs:B3 (v.take (i+1))=if B3 (v.take i)<BM x then BM x else B3 (v.take i):=kB hx
  by_cases h:B3 (v.take i)<BM x
  ·rw[if_pos h]at hs
   have h1:=hg.2 h;rw[<-hs]at hA hC h1;generalize o5 (B3 (v.take (i+1))-B3 (v.take i)).num=g at *;(repeat' ((first|(apply AG<;>intro hc<;>try (exfalso;omega))|(apply AY;omega)|(refine BG (by assumption) ?_ rfl ?_;omega)|apply AE|refine AD (hA) ?_|refine AD (hC) ?_)<;>conv=>whnf))
   exact BQ [] (ih (i+1) (by omega) (by omega))
  ·rw[if_neg h]at hs
   have h1 : ¬ 0<o5 (BM x-B3 (v.take i)).num:=λ e=>h (hg.1 e)
   rw[<-hs]at hC h1 ⊢;clear hg h hs;generalize o5 (BM x-B3 (v.take (i+1))).num=g at *;generalize BM x=y at *;(repeat' ((first|(apply AG<;>intro hc<;>try (exfalso;omega))|(apply AY;omega)|(refine BG (by assumption) ?_ rfl ?_;omega)|apply AE|refine AD (hA) ?_|refine AD (hC) ?_)<;>conv=>whnf))
   exact BQ [] (ih (i+1) (by omega) (by omega))
 obtain rfl:i=v.length:=by omega
 clear ih;rw[List.take_of_length_le (Nat.le_refl _)];(repeat' ((first|(apply AG<;>intro hc<;>try (exfalso;omega))|apply AE)<;>conv=>whnf))
 exact AW rfl (C4 _)
theorem zL (N:n7 L) (q q':Bool) (a:List (List Rat)) (D:Rat) (n k l:Nat) (hs:Sq n a) (ha:Ms k a) (hD:Bt l D) (hn:n<=16) (hk:k<=1000000000) (hl:l<=1000000000):Ev L 302 [.sl q (G5 q' a),.agg (eQ D)] (.bool (decide (∀ r∈a,A8 r+A8 r<=D))):=by
 have dw:=hs.l;refine Ev.x N.KO rfl rfl ?_;(repeat' ((first|apply AR|apply AE)<;>conv=>whnf))
 refine CK (λ i=>n-i) (λ(i:Nat)=>i<=n /\ ∀ r∈a.take i,A8 r+A8 r<=D) (λ i=>[(10,.int .i64 i)]) (λ_=>[]) [] [] 0 (by (conv=>whnf);exact ⟨rfl,rfl,rfl⟩) ⟨by omega,λ r hr=>by cases hr⟩ ?_;intro i ⟨p1,p2⟩ ih;by_cases hi:i<n
 ·obtain ⟨r,hr⟩ : ∃ r,a[i]? = some r:=⟨_,zE (by omega)⟩
  have lq:a[(i:Int).toNat]? = some r:=hr;have df:=hs.at hr;have hT:=λ q=>iW N q r k (ha.at hr) (by omega) hk
  have hz:Bt (16*(k+1)) (A8 r):=(M5 (ha.at hr)).le (Nat.mul_le_mul_right _ (by omega));have hP:=MX N.toa7 hz hz (by omega) (by omega);have hC:=YJ N.too0 (hz.add hz) hD (by omega) (by omega);have hg:=RH (x:=A8 r+A8 r) (y:=D);by_cases h:D<A8 r+A8 r
  ·have xj : ¬ ∀ r∈a,A8 r+A8 r<=D:=λ e=>by
    have:=e r (zM hr)
    grind
   have:=hg.2 h
   rw[decide_eq_false xj];clear xj p2 ih hz h hg;generalize o5 (A8 r+A8 r-D).num=g at *;generalize A8 r+A8 r=w at *;generalize A8 r=z at *;(repeat' ((first|(apply AG<;>intro hc<;>try (exfalso;omega))|(refine BG (by assumption) ?_ rfl ?_;omega)|apply AE|refine AD (hT _) ?_|refine AD (hP) ?_|refine AD (hC) ?_)<;>conv=>whnf))
   exact JG rfl
  ·have Gb : ∀ r∈a.take (i+1),A8 r+A8 r<=D:=λ s hs=>by
    rw[HC hr]at hs;rcases List.mem_append.1 hs with hs|hs
    ·exact p2 s hs
    ·obtain rfl:=List.mem_singleton.1 hs
     grind
   have : ¬ 0<o5 (A8 r+A8 r-D).num:=λ e=>h (hg.1 e)
   clear p2 hz h hg;generalize o5 (A8 r+A8 r-D).num=g at *;generalize A8 r+A8 r=w at *;generalize A8 r=z at *;(repeat' ((first|(apply AG<;>intro hc<;>try (exfalso;omega))|(apply AY;omega)|(refine BG (by assumption) ?_ rfl ?_;omega)|apply AE|refine AD (hT _) ?_|refine AD (hP) ?_|refine AD (hC) ?_)<;>conv=>whnf))
   exact BQ [] (ih (i+1) (by omega) ⟨by omega,Gb⟩)
 obtain rfl:i=n:=by omega
 clear ih;rw[List.take_of_length_le (by omega)]at p2;rw[decide_eq_true p2];(repeat' ((first|(apply AG<;>intro hc<;>try (exfalso;omega))|apply AE)<;>conv=>whnf))
 exact JG rfl
theorem lJ {α:Type} {a b:List α} {j:Nat} {y:α} (hl:a.length=b.length) (hy:a[j]? = some y):(a.take j++b.drop j).set j y=a.take (j+1)++b.drop (j+1):=by
 have h:=(zS hy).1;rw[List.set_append_right _ _ (by rw[List.length_take];omega),List.length_take,Nat.min_eq_left (by omega),Nat.sub_self,List.drop_eq_getElem_cons (by omega),List.set_cons_zero,List.take_add_one,hy,Option.toList_some,List.append_assoc];rfl
def GQ (Q:List (List Rat)) (n j:Nat):List (Option (Nat × List (List AV))):=Q.map λ r=>some (3,(FB (r.take j) n).map eO)
def I5 (Q:List (List Rat)) (n j m:Nat):List (Option (Nat × List (List AV))):=(GQ Q n (j+1)).take m++(GQ Q n j).drop m
theorem NI (Q:List (List Rat)) (n j:Nat):(GQ Q n j).length=Q.length:=by simp [GQ]
theorem uT (Q:List (List Rat)) (n j:Nat):I5 Q n j 0=GQ Q n j:=by simp [I5]
theorem uQ (Q:List (List Rat)) (n j:Nat):I5 Q n j Q.length=GQ Q n (j+1):=by
 rw[I5,List.take_of_length_le (by rw[NI];exact Nat.le_refl _),List.drop_of_length_le (by rw[NI];exact Nat.le_refl _),List.append_nil]
theorem uR {Q:List (List Rat)} {n j m:Nat} (h:m<=Q.length):(I5 Q n j m).length=Q.length:=by
 rw[I5,List.length_append,List.length_take,List.length_drop,NI,NI];omega
theorem uP {Q:List (List Rat)} {n j m:Nat} {r:List Rat} (hr:Q[m]? = some r):(I5 Q n j m)[m]? = some (some (3,(FB (r.take j) n).map eO)):=by
 have h:=(zS hr).1;rw[I5,List.getElem?_append_right (by rw[List.length_take,NI];omega),List.length_take,NI,Nat.min_eq_left (by omega),Nat.sub_self,List.getElem?_drop,Nat.add_zero,GQ,List.getElem?_map,hr];rfl
theorem uS {Q:List (List Rat)} {n j m:Nat} {r:List Rat} (hr:Q[m]? = some r):(I5 Q n j m).set m (some (3,(FB (r.take (j+1)) n).map eO))=I5 Q n j (m+1):=by
 have h:=(zS hr).1;exact lJ (by rw[NI,NI]) (by rw[GQ,List.getElem?_map,hr];rfl)
theorem qY {R:List (Option (Nat × List (List AV)))} {i z:Nat} {es:List (List AV)} {K:Nat->List (List AV)->Prop} (h:R[i]? = some (some (z,es))) (hk:K z es):B4 R i K:=by
 unfold B4;exact ⟨z,es,h,hk⟩
theorem uU {Q:List (List Rat)} {n:Nat} (h : ∀ r∈Q,r.length=n):GQ Q n n=FP 3 eQ Q:=by
 refine List.map_congr_left λ r hr => ?_
 have:=h r hr
 rw[List.take_of_length_le (by omega),OK this]
theorem zP (N:n7 L) (q q':Bool) (a:List (List Rat)) (n k:Nat) (hs:Sq n a) (ha:Ms k a) (hn:n<=4) (hk:k<=1000000000):Ev L 299 [.sl q (G5 q' a)] (.sl false (eM (FC a a n))):=by
 have dw:=hs.l;have yo:Sq n (FC a a n):=Sq.mul hs.l a;have Dm : ∀ (i:Nat) (r:List Rat),a[i]? = some r->(FC a a n)[i]? = some (DZ r a n):=λ i r hr=>by rw[FC,List.getElem?_map,hr];rfl
 have Bn : ∀ (j:Nat) (r:List Rat),j<n->(DZ r a n)[j]? = some (A6 r (CW a j)):=λ j r hj=>by rw[DZ,List.getElem?_map,List.getElem?_range hj];rfl
 have Dn:=yo.l;have Bm:=yo.r;generalize FC a a n=Q at *;refine Ev.x N.KU rfl rfl ?_;(repeat' ((first|apply AR|apply AE)<;>conv=>whnf))
 unfold CU;refine ⟨⟨by omega,by omega,by simp only[EA];omega,by omega⟩,?_⟩;rw[Int.toNat_natCast,dw];(conv=>whnf)
 skip
 have nc:=NI Q n 0;have Bk : ∀ i,i<n->(GQ Q n 0)[i]? = some (some (3,(List.replicate n (none:Option Rat)).map eO)):=λ i hi=>by
  rw[GQ,List.getElem?_map,zE (by omega),Option.map_some,List.take_zero,OM]
 refine CK (λ i=>n-i) (λ(i:Nat)=>i<=n) (λ i=>[(15,.int .i64 i)]) (λ i=>[(13,13,.mx (fz none ((GQ Q n 0).take i) n))]) [] [] 0 (by first|exact (by (conv=>whnf);exact ⟨rfl,rfl,rfl⟩)|(rw[List.take_zero,show fz (none:Option (Nat × List (List AV))) [] n=List.replicate n none by simp [fz]];exact (by (conv=>whnf);exact ⟨rfl,rfl,rfl⟩))) (by omega) ?_;intro i p1 ih;have im:((GQ Q n 0).take i).length=i:=by rw[List.length_take];omega
 have cn:=ZA (z:=(none:Option (Nat × List (List AV)))) (l:=(GQ Q n 0).take i) (m:=n) (by omega);by_cases hi:i<n
 ·have mj:=ZB (z:=(none:Option (Nat × List (List AV)))) (x:=some (3,(List.replicate n (none:Option Rat)).map eO)) (l:=(GQ Q n 0).take i) (m:=n) (by omega)
  rw[im,<-HC (Bk i hi)]at mj;generalize fz (none:Option (Nat × List (List AV))) ((GQ Q n 0).take i) n=J at *;(repeat' ((first|(apply AG<;>intro hc<;>try (exfalso;omega))|apply AE)<;>conv=>whnf))
  refine ET (enc:=eO) none n rfl rfl (by omega) ?_;(conv=>whnf)
  (repeat' ((first|(apply BA;omega)|fail)<;>conv=>whnf))
  unfold AU CM;refine ⟨by simp,by omega,?_⟩;(conv=>whnf)
  rw[show 0+((i:Int)).toNat=i by omega,mj];(repeat' ((first|(apply AY;omega)|fail)<;>conv=>whnf))
  exact BQ [] (ih (i+1) (by omega) (by omega))
 have ei:i=n:=by omega
 clear ih cn;rw[ei,List.take_of_length_le (by omega),Y9 (by omega)];(repeat' ((first|(apply AG<;>intro hc<;>try (exfalso;omega))|apply AE)<;>conv=>whnf))
 refine ET (enc:=eO) none n rfl rfl (by omega) ?_;(conv=>whnf)
 skip
 refine FV (λ j _=>n-j) (λ(j:Nat) (C:List (Option Rat))=>j<=n/\C.length=n) (λ j _=>[(27,.int .i64 j)]) (λ j C=>[(25,25,.rw 3 (C.map eO)),(13,13,.mx (GQ Q n j))]) [] [] 0 (List.replicate n none) (by (conv=>whnf);exact ⟨rfl,rfl,rfl⟩) ⟨by omega,by simp⟩ ?_;intro j C ⟨r1,r2⟩ jh;by_cases hj:j<n
 ·have n6:(CW a j).length=n:=by rw[uN];exact dw
  have Um:((CW a j).map some).length=n:=by rw[List.length_map];exact n6
  (repeat' ((first|(apply AG<;>intro hc<;>try (exfalso;omega))|apply AE)<;>conv=>whnf))
  refine CK (λ i=>n-i) (λ(i:Nat)=>i<=n) (λ i=>[(31,.int .i64 i)]) (λ i=>[(25,25,.rw 3 ((((CW a j).map some).take i++C.drop i).map eO))]) [] [] 0 (by rw[List.take_zero,List.drop_zero,List.nil_append];exact (by (conv=>whnf);exact ⟨rfl,rfl,rfl⟩)) (by omega) ?_;intro i2 s1 kh;have pd:(((CW a j).map some).take i2++C.drop i2).length=n:=by rw[List.length_append,List.length_take,List.length_drop];omega
  by_cases gn:i2<n
  ·obtain ⟨r,hr⟩ : ∃ r,a[i2]? = some r:=⟨_,zE (by omega)⟩
   have df:=hs.at hr;obtain ⟨x,hx⟩ : ∃ x,r[j]? = some x:=⟨_,zE (by omega)⟩;have lq:a[(i2:Int).toNat]? = some r:=hr;have jf:r[(j:Int).toNat]? = some x:=hx;have Uo:((CW a j).map some)[i2]? = some (some x):=by
    rw[List.getElem?_map,CW,List.getElem?_map,hr];simp only[Option.map_some,List.getD_eq_getElem?_getD,hx,Option.getD_some]
   have j9:=lJ (a:=(CW a j).map some) (b:=C) (by omega) Uo;generalize ((CW a j).map some).take i2++C.drop i2=W at *;(repeat' ((first|(apply AG<;>intro hc<;>try (exfalso;omega))|(apply BA;omega)|(refine BG (by assumption) ?_ rfl ?_;omega)|apply AE)<;>conv=>whnf))
   refine I3 (enc:=eO) (some x) rfl (λ e=>by cases e<;>rfl) (by omega) ?_;(conv=>whnf)
   rw[j9];(repeat' ((first|(apply AY;omega)|fail)<;>conv=>whnf))
   exact BQ [] (kh (i2+1) (by omega) (by omega))
  obtain rfl:i2=n:=by omega
  clear kh pd;rw[List.take_of_length_le (by omega),List.drop_of_length_le (by omega),List.append_nil,show ((CW a j).map some).map eO=(CW a j).map eQ by rw[List.map_map];rfl];(repeat' ((first|(apply AG<;>intro hc<;>try (exfalso;omega))|apply AE)<;>conv=>whnf))
  refine CK (λ i=>i2-i) (λ(i:Nat)=>i<=i2) (λ i=>[(46,.int .i64 i)]) (λ i=>[(13,13,.mx (I5 Q i2 j i))]) [] [] 0 (by rw[uT];exact (by (conv=>whnf);exact ⟨rfl,rfl,rfl⟩)) (by omega) ?_;intro i3 s2 lh;have pd:=uR (Q:=Q) (n:=i2) (j:=j) (m:=i3) (by omega);by_cases na:i3<i2
  ·obtain ⟨r,hr⟩ : ∃ r,a[i3]? = some r:=⟨_,zE (by omega)⟩
   have df:=hs.at hr;have lq:a[(i3:Int).toNat]? = some r:=hr;have hq:=Dm i3 r hr;have kv:=uP (n:=i2) (j:=j) hq;have jz:=uS (n:=i2) (j:=j) hq;have Iv:=Bn j r hj;have Ai:(DZ r a i2).length=i2:=Bm _ (zM hq);have Il:((DZ r a i2).take j).length=j:=by rw[List.length_take];omega
   have mj:=ON (l:=(DZ r a i2).take j) (m:=i2) (x:=A6 r (CW a j)) (by omega);rw[Il,<-HC Iv]at mj;have cn:=OL (l:=(DZ r a i2).take j) (m:=i2) (by omega);rw[<-mj]at jz;have hD:=λ q q'=>iT N q q' r (CW a j) k k (by omega) (ha.at hr) (Ms.Bj ha j) (by omega) hk hk
   clear hq Iv mj Il Ai;generalize FB ((DZ r a i2).take j) i2=W at *;generalize A6 r (CW a j)=y at *;generalize I5 Q i2 j i3=R0 at *;(repeat' ((first|(apply AG<;>intro hc<;>try (exfalso;omega))|(apply BA;omega)|apply AE)<;>conv=>whnf))
   refine cY (r:=some (3,W.map eO)) (by rw[Nat.zero_add,Int.toNat_natCast];exact kv) ?_;(conv=>whnf)
   (repeat' ((first|(refine BG (by assumption) ?_ rfl ?_;omega)|fail)<;>conv=>whnf))
   refine DE (enc:=eQ) (λ_=>rfl) rfl n6.symm ?_;(conv=>whnf)
   (repeat' (refine AD (hD _ _) ?_<;>conv=>whnf))
   refine BA (by rw[List.length_map];omega) ?_;(conv=>whnf)
   skip
   refine qY (z:=3) (es:=W.map eO) (by rw[Nat.zero_add,Int.toNat_natCast];exact kv) ?_;(conv=>whnf)
   refine I3 (enc:=eO) (some y) rfl (λ e=>by cases e<;>rfl) (by omega) ?_;(conv=>whnf)
   unfold CZ;refine ⟨by rw[List.length_map,List.length_map,List.length_set],?_⟩;rw[show 0+((i3:Int)).toNat=i3 by omega,jz];(conv=>whnf)
   (repeat' ((first|(apply AY;omega)|fail)<;>conv=>whnf))
   exact BQ [] (lh (i3+1) (by omega) (by omega))
  obtain rfl:i3=i2:=by omega
  clear lh pd;have sv:=uQ Q i3 j;rw[Dn]at sv;rw[sv];(repeat' ((first|(apply AG<;>intro hc<;>try (exfalso;omega))|(apply AY;omega)|apply AE)<;>conv=>whnf))
  rw[show (CW a j).map eQ=((CW a j).map some).map eO by rw[List.map_map];rfl];exact BQ [] (jh (j+1) ((CW a j).map some) (by omega) ⟨by omega,by rw[List.length_map];exact n6⟩)
 have ej:j=n:=by omega
 clear jh;rw[ej,uU Bm];(repeat' ((first|(apply AG<;>intro hc<;>try (exfalso;omega))|apply AE)<;>conv=>whnf))
 refine UG (λ_=>rfl) rfl (by omega) ?_;(conv=>whnf)
 exact AW rfl (eJ Q)
end Go.c4
