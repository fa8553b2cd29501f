/-
  State-space forms (layer 27), the program: zeros, at, degree, Valid, Controller.
-/
import Derived.Test.YthgjfcjecnmflaaGreatB10
import Derived.Test.YthgjfcjecnmflaaGreatB9
import Derived.Test.YthgjfcjecnmflaaGreatB2
import Derived.Test.YthgjfcjecnmflaaGreatB8
import Derived.Test.YthgjfcjecnmflaaGreatB5
import Derived.ProofKit
import Derived.OpenShut
import Derived.ChangeOld
import Derived.WalkKit
import Derived.WideShapes
import Derived.ChangeArms
import Derived.Test.YthgjfcjecnmflaaGreatB7
set_option linter.unusedSimpArgs false
set_option linter.unusedVariables false
set_option linter.unnecessarySimpa false
namespace Go.e8
open F
attribute [local irreducible] AA AF AM AE C8 AX BF BD B9 B2 CX E9 B0 A5 B5 CQ AB A7 AJ pw BR BO C4 D0 DZ DU DN BZ DW
variable {L:Lib}
set_option maxHeartbeats 16000000
set_option maxRecDepth 8000
theorem AeK (N:o5 L) (m:Nat) (hm:m<=65536):JL L 206 [.int .i64 (m:Int)] 3 ((List.replicate m (0:Rat)).map eQ):=by
 have hO:=PO N.tob8 0 (by omega);refine JL.x N.NV rfl rfl ?_;(repeat' (apply AD<;>conv=>whnf))
 refine EH (enc:=eO) none m rfl rfl (by omega) ?_;(conv=>whnf)
 skip
 refine DL (λ i=>m-i) (λ(i:Nat)=>i<=m) (λ i=>[(8,.int .i64 i)]) (λ i=>[(6,6,.rw 3 ((D4 (List.replicate i 0) m).map eO))]) [] [] 0 (by first|exact (by (conv=>whnf);exact ⟨rfl,rfl,rfl⟩)|(rw[<-JT];exact (by (conv=>whnf);exact ⟨rfl,rfl,rfl⟩))) (by omega) ?_;intro i p1 ih;by_cases hi:i<m
 ·have hl:=JS (l:=List.replicate i (0:Rat)) (m:=m) (by simp;omega)
  have hs:=JU (l:=List.replicate i (0:Rat)) (m:=m) (x:=0) (by simp;omega);rw[List.length_replicate]at hs;(repeat' ((first|(apply AG<;>intro hc<;>try omega)|(apply AU;omega)|apply AD|refine AC (hO) ?_)<;>conv=>whnf))
  refine F3 (enc:=eO) (some 0) rfl (λ e=>by cases e<;>rfl) (by omega) ?_;(conv=>whnf)
  (repeat' ((first|(apply A0;omega)|fail)<;>conv=>whnf))
  rw[hs];rw[show List.replicate i (0:Rat)++[0]=List.replicate (i+1) 0 by rw[List.replicate_succ']];exact BQ [] (ih (i+1) (by omega) (by omega))
 obtain rfl:i=m:=by omega
 clear ih;rw[JR (by simp)];(repeat' ((first|(apply AG<;>intro hc<;>try omega)|apply AD)<;>conv=>whnf))
 exact ⟨rfl,rfl,by simp,rfl,GF _⟩
theorem iI (N:o5 L) (q:Bool) (l:List Rat) (i:Int) (k:Nat) (h0:0<=i) (hl:Bs k l) (hk:k<2199023255552) (hn:l.length<=1000000):Ev L 205 [.sl q (l.map eQ),.int .i64 i] (.agg (eQ (l.getD i.toNat 0))):=by
 have hO:=PO N.tob8 0 (by omega);refine Ev.x N.NI rfl rfl ?_;by_cases hi:i<l.length
 ·obtain ⟨x,hx⟩ : ∃ x,l[i.toNat]? = some x:=⟨_,zE (by omega)⟩
  have hT:=YM N.tob8 (hl.at hx) hk;rw[IG hx];(repeat' ((first|(apply AG<;>intro hc<;>try omega)|apply AQ|(refine A8 (by assumption) ?_ rfl ?_;omega)|apply AD|refine AC (hT) ?_)<;>conv=>whnf))
  exact AW rfl (D9 _)
 ·rw[JV (l:=l) (by omega)]
  (repeat' ((first|(apply AG<;>intro hc<;>try omega)|apply AQ|apply AD|refine AC (hO) ?_)<;>conv=>whnf))
  exact AW rfl (D9 _)
theorem sH (N:o5 L) (q:Bool) (l:List Rat) (k:Nat) (ht:BW l=l) (hl:Bs k l) (hk:k<2199023255552) (hn:l.length<=1000000):Ev L 204 [.sl q (l.map eQ)] (.int .i64 ((l.length-1:Nat):Int)):=by
 refine Ev.x N.NL rfl rfl ?_;(repeat' ((first|(apply BT;omega)|apply AQ|apply AD)<;>conv=>whnf))
 refine JI ?_;by_cases h2:l.length<=1
 ·(repeat' ((first|(apply AG<;>intro hc<;>try omega)|apply AD)<;>conv=>whnf))
  exact CM (by omega)
 ·obtain ⟨x,hx⟩ : ∃ x,l[l.length-1]? = some x:=⟨_,zE (by omega)⟩
  have jg:l[((l.length:Int)-1).toNat]? = some x:=by rw[show ((l.length:Int)-1).toNat=l.length-1 by omega];exact hx
  have Oy:=RC ht (by omega);rw[IG hx]at Oy;have hS:=bG N.tob8 (hl.at hx) hk;have hs:=dD (x:=x);generalize y7 x.num=s at *;have rl:s≠0:=λ h=>Oy (hs.1 h)
  (repeat' ((first|(apply AG<;>intro hc<;>try omega)|(refine A8 (by assumption) ?_ rfl ?_;omega)|apply AD|refine AC (hS) ?_)<;>conv=>whnf))
  exact CM (by omega)
theorem AeE (N:o5 L) (q1 q2:Bool) (B A:List Rat) (k:Nat) (hB:Bs k B) (hA:Bs k A) (hk:k<2199023255552) (lB:B.length<=49) (lA:A.length<=49) (h0:A[0]? = some 1):Ev L 201 [.agg [.sl q1 (B.map eQ),.sl q2 (A.map eQ)]] (.bool true):=by
 have c1:=IW B B.length;have c2:=IW A A.length;have tn:=rU N q1 B k hB hk (by omega);have tt:=rU N q2 A k hA hk (by omega);have hO:=PO N.tob8 1 (by omega);have hC:=Xu N (Bt.one 1) (Bt.one 1) (by omega) (by omega);rw[lD.2 rfl]at hC;have hAl:0<A.length:=(zS h0).1;have wu:A[(0:Int).toNat]? = some 1:=h0;generalize CP B B.length=d1 at *;generalize CP A A.length=d2 at *;refine Ev.x N.ND rfl rfl ?_;(repeat' ((first|(apply AG<;>intro hc<;>try omega)|apply AQ|(refine A8 (by assumption) ?_ rfl ?_;omega)|apply AD|refine AC (tn) ?_|refine AC (tt) ?_|refine AC (hO) ?_|refine AC (hC) ?_)<;>conv=>whnf))
 exact HH rfl
theorem Ww (B A:List Rat) (m:Nat):(B4 B A (m+1)).a.take 1=[(List.range (m+1)).map λ k => -(A.getD (k+1) 0)]:=by
 simp [B4,List.range_succ_eq_map]
theorem Wx {B A:List Rat} {n i:Nat} (h1:1<=i) (hi:i<n):(B4 B A n).a[i]? = some (DE n ((i-1:Nat):Int)):=by
 simp only[B4,List.getElem?_map,List.getElem?_range hi,Option.map_some];rw[if_neg (by omega)]
theorem pL {B A:List Rat} {n i:Nat} (hi:i<n):(B4 B A n).c[i]? = some (B.getD (i+1) 0-B.getD 0 0*A.getD (i+1) 0):=by
 simp only[B4,List.getElem?_map,List.getElem?_range hi,Option.map_some]
theorem Wy (B A:List Rat) (m:Nat):(B4 B A (m+1)).c.take 1=[B.getD 1 0-B.getD 0 0*A.getD 1 0]:=by
 rw[List.take_add_one,pL (by omega)];rfl
theorem fU (B A:List Rat) (n:Nat):(B4 B A n).a.length=n:=by simp [B4]
theorem fW (B A:List Rat) (n:Nat):(B4 B A n).c.length=n:=by simp [B4]
theorem lZ {α:Type} {l:List α} {i:Nat} {x:α} (h:l[i]? = some x):l.take (i+1)=l.take i++[x]:=by
 rw[List.take_add_one,h];rfl
theorem fJ (S:DQ) (e:Int):A1 (.l6 [.agg (eS S),.int .i64 e]):=by
 have:=oS S
 simp only[A1,CD,true_and,and_true]at this ⊢;exact this
theorem rC (N:o5 L) (w1 w2:Bool) (B A:List Rat) (n k:Nat) (hB:BW B=B) (hA:BW A=A) (bB:Bs k B) (bA:Bs k A) (lB:B.length<=17) (lA:A.length<=17) (h0:A[0]? = some 1) (hn:max (B.length-1) (A.length-1)=n) (hk:k<=1000000) :
  Ev L 207 [.agg [.sl w1 (B.map eQ),.sl w2 (A.map eQ)]] (.l6 [.agg (eS (B4 B A n)),.int .i64 0]):=by
 have hV:=AeE N w1 w2 B A k bB bA (by omega) (by omega) (by omega) h0;have tn:=sH N w1 B k hB bB (by omega) (by omega);have tt:=sH N w2 A k hA bA (by omega) (by omega);have hO:=PO N.tob8 1 (by omega);have Di:=iI N w1 B 0 k (by omega) bB (by omega) (by omega);rw[show B.getD (0:Int).toNat 0=B.getD 0 0 from rfl]at Di;have hZ:=AeK N n (by omega);have Mp:Bt k (B.getD 0 0):=GH bB 0;have Ji : ∀ i:Nat,Ev L 205 [.sl w1 (B.map eQ),.int .i64 ((i:Int)+1)] (.agg (eQ (B.getD (i+1) 0)))/\Ev L 205 [.sl w2 (A.map eQ),.int .i64 ((i:Int)+1)] (.agg (eQ (A.getD (i+1) 0))) /\
   Ev L 99 [.agg (eQ (B.getD 0 0)),.agg (eQ (A.getD (i+1) 0))] (.agg (eQ (B.getD 0 0*A.getD (i+1) 0)))/\Ev L 150 [.agg (eQ (B.getD (i+1) 0)),.agg (eQ (B.getD 0 0*A.getD (i+1) 0))] (.agg (eQ (B.getD (i+1) 0-B.getD 0 0*A.getD (i+1) 0))) /\
   Ev L 199 [.agg (eQ (A.getD (i+1) 0))] (.agg (eQ (-(A.getD (i+1) 0)))):=λ i=>by
  have e1:=iI N w1 B ((i:Int)+1) k (by omega) bB (by omega) (by omega);have e2:=iI N w2 A ((i:Int)+1) k (by omega) bA (by omega) (by omega);rw[show ((i:Int)+1).toNat=i+1 by omega]at e1 e2;exact ⟨e1,e2,KG N.tob8 Mp (GH bA _) (by omega) (by omega),sK N.toz7 (GH bB _) (Mp.mul (GH bA _)) (by omega) (by omega),Aeo N (GH bA _) (by omega)⟩
 have hd:(B4 B A n).d=B.getD 0 0:=rfl;have x7:=fU B A n;have q6:=fW B A n;have lu:eS (B4 B A n)=[.sl false ((B4 B A n).a.map λ r=>[AV.sl false (r.map eQ)]),.sl false ((DE n 0).map eQ),.sl false ((B4 B A n).c.map eQ)]++eQ (B.getD 0 0):=rfl;have bu:=fJ (B4 B A n) 0;rw[lu]at bu ⊢;have hai : ∀ i,1<=i->i<n->(B4 B A n).a[i]? = some (DE n ((i-1:Nat):Int)):=λ i h1 h2=>Wx h1 h2
 have Jk : ∀ i,i<n->(B4 B A n).c[i]? = some (B.getD (i+1) 0-B.getD 0 0*A.getD (i+1) 0):=λ i h=>pL h
 have Iv:0<n->(B4 B A n).a.take 1=[(List.range n).map λ k => -(A.getD (k+1) 0)]:=λ h=>by
  obtain ⟨m,rfl⟩ : ∃ m,n=m+1:=⟨n-1,by omega⟩;exact Ww B A m
 have vt:0<n->(B4 B A n).c.take 1=[B.getD (0+1) 0-B.getD 0 0*A.getD (0+1) 0]:=λ h=>by
  obtain ⟨m,rfl⟩ : ∃ m,n=m+1:=⟨n-1,by omega⟩;exact Wy B A m
 have s8 : ∀ j,j<n->((List.range n).map λ k => -(A.getD (k+1) 0))[j]? = some (-(A.getD (j+1) 0)):=λ j h=>by
  rw[List.getElem?_map,List.getElem?_range h];rfl
 have Ky:((List.range n).map λ k => -(A.getD (k+1) 0)).length=n:=by simp
 have fu : ∀ j,(DE n j).length=n:=λ j=>O9 n j
 generalize (B4 B A n).a=a at *;generalize (B4 B A n).c=c at *;generalize (List.range n).map (λ k => -(A.getD (k+1) 0))=r0 at *;generalize B.getD 0 0=b0 at *;rcases Nat.lt_or_ge (B.length-1) (A.length-1) with m9|nh
 focus
  rw[show A.length-1=n by omega]at tt m9;refine Ev.x N.JC rfl rfl ?_;(repeat' ((first|(apply AG<;>intro hc<;>try omega)|apply AD|refine AC (hV) ?_|refine AC (tn) ?_|refine AC (tt) ?_|refine AC (Di) ?_)<;>conv=>whnf))
 rotate_left
 focus
  rw[show B.length-1=n by omega]at tn nh;refine Ev.x N.JC rfl rfl ?_;(repeat' ((first|(apply AG<;>intro hc<;>try omega)|apply AD|refine AC (hV) ?_|refine AC (tn) ?_|refine AC (tt) ?_|refine AC (Di) ?_)<;>conv=>whnf))
 all_goals
  refine VU (enc:=eQ) n hZ (by simp) ?_;(conv=>whnf)
  by_cases wg:n=0
  ·skip
   first
   | exact absurd m9 (by omega)
   |(subst wg
     (repeat' ((first|(apply AG<;>intro hc<;>try omega)|fail)<;>conv=>whnf))
     refine JI ?_;(repeat' ((first|(apply AG<;>intro hc<;>try omega)|(refine C7 (λ_=>rfl) rfl ?_ ?_;(first|rfl|simp))|apply AD)<;>conv=>whnf))
     rw[List.eq_nil_of_length_eq_zero x7,List.eq_nil_of_length_eq_zero q6]at *;exact AW rfl bu)
  ·(repeat' ((first|(apply AG<;>intro hc<;>try omega)|(apply AU;omega)|refine AC (hO) ?_)<;>conv=>whnf))
   refine aB (enc:=eQ) 0 1 rfl rfl (λ_=>rfl) (by simp;omega) ?_;(conv=>whnf)
   rw[show (List.replicate n (0:Rat)).set 0 1=DE n 0 from mH n 0];skip
   refine JI ?_;(repeat' ((first|(apply AG<;>intro hc<;>try omega)|apply AD)<;>conv=>whnf))
   refine VU (enc:=eQ) n hZ (by simp) ?_;(conv=>whnf)
   (repeat' ((first|(apply AG<;>intro hc<;>try omega)|fail)<;>conv=>whnf))
   refine DL (λ j=>n-j) (λ(j:Nat)=>j<=n) (λ j=>[(50,.int .i64 j)]) (λ j=>[(41,41,.rw 3 ((cz r0 n j).map eQ))]) [] [] 0 (by first|exact (by (conv=>whnf);exact ⟨rfl,rfl,rfl⟩)|(rw[Xn];exact (by (conv=>whnf);exact ⟨rfl,rfl,rfl⟩))) (by omega) ?_;intro j p1 ih;have xi:=Xl (row:=r0) p1;by_cases hj:j<n
   ·have m5:=Xm (s8 j hj) hj
    obtain ⟨f1,f2,f3,f4,f5⟩:=Ji j;(repeat' ((first|(apply AG<;>intro hc<;>try omega)|(apply AU;omega)|(apply A0;omega)|apply AD|refine AC (f2) ?_|refine AC (f5) ?_)<;>conv=>whnf))
    refine F3 (enc:=eQ) (-(A.getD (j+1) 0)) rfl (λ_=>rfl) (by omega) ?_;(conv=>whnf)
    (repeat' ((first|(apply A0;omega)|fail)<;>conv=>whnf))
    rw[m5];exact BQ [] (ih (j+1) (by omega) (by omega))
   obtain rfl:j=n:=by omega
   clear ih;rw[Xk Ky];obtain ⟨f1,f2,f3,f4,f5⟩:=Ji 0;(repeat' ((first|(apply AG<;>intro hc<;>try omega)|apply AD)<;>conv=>whnf))
   refine AU ⟨by rw[List.length_map];omega,by omega⟩ ?_;(conv=>whnf)
   (repeat' ((first|(apply A0;omega)|apply EE|refine AC (Di) ?_|refine AC (f1) ?_|refine AC (f2) ?_|refine AC (f3) ?_|refine AC (f4) ?_)<;>conv=>whnf))
   refine ZV (enc:=eQ) (B.getD (0+1) 0-b0*A.getD (0+1) 0) rfl rfl (by omega) ?_;(conv=>whnf)
   (repeat' ((first|(apply A0;omega)|fail)<;>conv=>whnf))
   refine DL (λ i=>j-i) (λ(i:Nat)=>1<=i/\i<=j) (λ i=>[(37,.int .i64 i)]) (λ i=>[(5,5,.bx ([.row 67 0 1 0 i,.row 28 0 3 0 j,.row 88 0 3 0 i]++eQ b0)),(67,67,.mx (BM 3 eQ (a.take i))),(88,88,.rw 3 ((c.take i).map eQ))]) [] [] 1 (by first|exact (by (conv=>whnf);exact ⟨rfl,rfl,rfl⟩)|(rw[Iv (by omega),vt (by omega)];exact (by (conv=>whnf);exact ⟨rfl,rfl,rfl⟩))) (by omega) ?_;intro i ⟨g1,g2⟩ ih;have Iy:(a.take i).length=i:=by rw[List.length_take];omega
   have Jl:(c.take i).length=i:=by rw[List.length_take];omega
   by_cases hi:i<j
   ·obtain ⟨f1,f2,f3,f4,f5⟩:=Ji i
    have Li:=lZ (hai i g1 hi);have hsc:=lZ (Jk i hi);have Iz:(a.take (i+1)).length=i+1:=by rw[List.length_take];omega
    have Jm:(c.take (i+1)).length=i+1:=by rw[List.length_take];omega
    have An8:=fu ((i-1:Nat):Int);(repeat' ((first|(apply AG<;>intro hc<;>try omega)|apply AD)<;>conv=>whnf))
    refine VU (enc:=eQ) j hZ (by simp) ?_;(conv=>whnf)
    (repeat' ((first|(apply AG<;>intro hc<;>try omega)|(apply AU;omega)|(apply BT;omega)|refine AC (hO) ?_)<;>conv=>whnf))
    refine aB (enc:=eQ) (i-1) 1 (by omega) rfl (λ_=>rfl) (by simp;omega) ?_;(conv=>whnf)
    rw[mH];skip
    refine AU (by rw[List.length_map];omega) ?_;refine XP (r:=DE j ((i-1:Nat):Int)) (en:=eQ) Iy.symm (by omega) (by omega) ?_;rw[<-Li,Iz];(conv=>whnf)
    (repeat' ((first|(apply A0;omega)|apply EE|refine AC (Di) ?_|refine AC (f1) ?_|refine AC (f2) ?_|refine AC (f3) ?_|refine AC (f4) ?_)<;>conv=>whnf))
    refine EX (enc:=eQ) (B.getD (i+1) 0-b0*A.getD (i+1) 0) rfl Jl.symm rfl (by omega) (by omega) ?_;rw[<-hsc,Jm];(conv=>whnf)
    (repeat' ((first|(apply A0;omega)|fail)<;>conv=>whnf))
    exact BQ [(67,1000067),(88,1000088)] (ih (i+1) (by omega) (by omega))
   obtain rfl:i=j:=by omega
   clear ih;rw[zT (Nat.le_of_eq x7),zT (Nat.le_of_eq q6)]at *;(repeat' ((first|(apply AG<;>intro hc<;>try omega)|apply AD)<;>conv=>whnf))
   refine QG (λ_=>rfl) rfl x7.symm ?_;(conv=>whnf)
   refine C7 (enc:=eQ) (λ_=>rfl) rfl (fu 0).symm ?_;(conv=>whnf)
   refine C7 (enc:=eQ) (λ_=>rfl) rfl q6.symm ?_;(conv=>whnf)
   exact AW rfl bu
def EP (a:List (List Rat)):List (List Rat):=(List.range a.length).map (C0 a)
theorem Aiy {a:List (List Rat)} {i:Nat} (h:i<a.length):(EP a)[i]? = some (C0 a i):=by
 simp only[EP,List.getElem?_map,List.getElem?_range h,Option.map_some]
theorem XJ (a:List (List Rat)):(EP a).length=a.length:=by simp [EP]
theorem Ws {a:List (List Rat)} {i j:Nat} {r:List Rat} {x:Rat} (hr:a[j]? = some r) (hx:r[i]? = some x):(C0 a i)[j]? = some x:=by
 simp only[C0,List.getElem?_map,hr,Option.map_some,IG hx]
theorem pM {B A:List Rat} {n:Nat} : ∀ r∈(B4 B A n).a,r.length=n:=by
 intro r hr;simp only[B4,List.mem_map]at hr;obtain ⟨i,_,rfl⟩:=hr;split
 ·simp
 ·exact O9 _ _
theorem Rk {R:List (Option (Nat × List (List AV)))} {e:Nat} {r:Option (Nat × List (List AV))} {K:Option (Nat × List (List AV))->Prop} (h:R[e]? = some r) (hk:K r):BR R e K:=by
 unfold BR;exact ⟨r,h,hk⟩
theorem AeN (N:o5 L) (q:Bool) (a:List (List Rat)) (n:Nat) (x7:a.length=n) (ua : ∀ r∈a,r.length=n) (hn:n<=65536):Ev L 212 [.sl q (a.map λ r=>[AV.sl false (r.map eQ)])] (.sl false ((EP a).map λ r=>[AV.sl false (r.map eQ)])):=by
 have db : ∀ i,i<n->(EP a)[i]? = some (C0 a i):=λ i h=>Aiy (by omega)
 have ck:=XJ a;have Ar : ∀ i,(C0 a i).length=n:=λ i=>by simp [C0,x7]
 have hx : ∀ i j,i<n->j<n -> ∃ r x,a[j]? = some r/\r[i]? = some x/\(C0 a i)[j]? = some x:=λ i j h1 h2=>by
  obtain ⟨r,hr⟩ : ∃ r,a[j]? = some r:=⟨_,zE (by omega)⟩;have bk:=ua r (zM hr);obtain ⟨x,hx⟩ : ∃ x,r[i]? = some x:=⟨_,zE (by omega)⟩;exact ⟨r,x,hr,hx,Ws hr hx⟩
 generalize hT:EP a=T at *;refine Ev.x N.NC rfl rfl ?_;(repeat' ((first|apply AQ|apply AD)<;>conv=>whnf))
 unfold DZ;refine ⟨⟨by omega,by omega,by simp only[EC];omega,by omega⟩,?_⟩;rw[Int.toNat_natCast,x7];(conv=>whnf)
 skip
 refine DL (λ i=>n-i) (λ(i:Nat)=>i<=n) (λ i=>[(4,.int .i64 i)]) (λ i=>[(8,8,.mx (mz T n i))]) [] [] 0 (by first|exact (by (conv=>whnf);exact ⟨rfl,rfl,rfl⟩)|(rw[<-W6 T];exact (by (conv=>whnf);exact ⟨rfl,rfl,rfl⟩))) (by omega) ?_;intro i p1 ih;have Gg:=W4 (Q:=T) p1;by_cases hi:i<n
 ·have m5:=W5 (db i hi) hi
  have Jk:=Ar i;have fr:(mz T n i)[i]? = some none:=by
   have hl:(BM 3 eQ (T.take i)).length=i:=by simp only[BM,List.length_map,List.length_take];omega
   have:=tC (z:=(none:Option (Nat × List (List AV)))) (l:=BM 3 eQ (T.take i)) (m:=n) (by omega)
   rw[hl]at this;exact this
  obtain ⟨r,x,e1,e2,e3⟩:=hx i 0 hi (by omega);have wq:a[(0:Int).toNat]? = some r:=e1;have tf:r[(i:Int).toNat]? = some x:=e2;have bk:=ua r (zM e1);have vt:(C0 a i).take 1=[x]:=by rw[List.take_add_one,e3];rfl
  generalize mz T n i=R0 at *;(repeat' ((first|(apply AG<;>intro hc<;>try omega)|apply AQ|apply AD)<;>conv=>whnf))
  refine JI ?_;(repeat' ((first|(apply AG<;>intro hc<;>try omega)|(apply AU;omega)|apply AQ|apply AD)<;>conv=>whnf))
  refine Rk (r:=none) (by rw[Nat.zero_add,Int.toNat_natCast];exact fr) ?_;(conv=>whnf)
  (repeat' ((first|(refine A8 (by assumption) ?_ rfl ?_;omega)|apply EE)<;>conv=>whnf))
  refine ZV (enc:=eQ) x rfl rfl (by omega) ?_;(conv=>whnf)
  (repeat' ((first|(apply AU;omega)|fail)<;>conv=>whnf))
  refine AU rfl ?_;refine OB (i:=i) (by omega) (by omega) ?_;(conv=>whnf)
  (repeat' ((first|(apply A0;omega)|fail)<;>conv=>whnf))
  refine DL (λ j=>n-j) (λ(j:Nat)=>1<=j/\j<=n) (λ j=>[(5,.int .i64 j)]) (λ j=>[(8,8,.mx (R0.set i (some (3,((C0 a i).take j).map eQ))))]) [] [] 1 (by first|exact (by (conv=>whnf);exact ⟨rfl,rfl,rfl⟩)|(rw[vt];exact (by (conv=>whnf);exact ⟨rfl,rfl,rfl⟩))) (by omega) ?_;intro j ⟨r1,r2⟩ jh;have pj:((C0 a i).take j).length=j:=by rw[List.length_take];omega
  by_cases hj:j<n
  ·obtain ⟨r,x,e1,e2,e3⟩:=hx i j hi hj
   have wq:a[(j:Int).toNat]? = some r:=e1;have tf:r[(i:Int).toNat]? = some x:=e2;have bk:=ua r (zM e1);have hs:=lZ e3;have Bk:((C0 a i).take (j+1)).length=j+1:=by rw[List.length_take];omega
   generalize (C0 a i).take j=W at *;(repeat' ((first|(apply AG<;>intro hc<;>try omega)|(apply AU;omega)|apply AQ|apply AD)<;>conv=>whnf))
   refine N8 (by omega) (by omega) ?_;(conv=>whnf)
   (repeat' ((first|(refine A8 (by assumption) ?_ rfl ?_;omega)|apply EE)<;>conv=>whnf))
   refine JN (by omega) (by omega) ?_;(conv=>whnf)
   refine EX (enc:=eQ) x rfl (by rw[List.length_map]) rfl (by omega) (by omega) ?_;intro s' v;rw[<-hs,Bk];(conv=>whnf)
   (repeat' ((first|(apply AU;omega)|fail)<;>conv=>whnf))
   refine AU ⟨rfl,by rw[List.length_map];omega⟩ ?_;refine OB (i:=i) (by omega) (by rw[List.length_set,List.length_set];omega) ?_;rw[show 0+((i:Int)).toNat=i by omega,List.set_set,List.set_set];(conv=>whnf)
   (repeat' ((first|(apply A0;omega)|fail)<;>conv=>whnf))
   exact BQ [] (jh (j+1) (by omega) (by omega))
  obtain rfl:j=n:=by omega
  clear jh;rw[zT (by omega),m5];(repeat' ((first|(apply AG<;>intro hc<;>try omega)|(apply A0;omega)|apply AQ|apply AD)<;>conv=>whnf))
  exact BQ [] (ih (i+1) (by omega) (by omega))
 obtain rfl:i=n:=by omega
 clear ih;rw[W3 (by omega)];(repeat' ((first|(apply AG<;>intro hc<;>try omega)|apply AQ|apply AD)<;>conv=>whnf))
 refine QG (λ_=>rfl) rfl (by omega) ?_;(conv=>whnf)
 exact AW rfl (by
  have:=oS ⟨T,[],[],0⟩
  simp only[A1,CD,true_and,and_true]at this ⊢;have h2:=this.1;simp only[A1,true_and]at h2;exact h2)
theorem Yw (N:ig L) (S:DQ) (n k:Nat) (q:Bool) (h:S.Ok n k) (hn:n<=64) (hk:k<2199023255552) :
  Ev L 167 [.agg ([.sl false (S.a.map λ r=>[AV.sl false (r.map eQ)]),.sl false (S.b.map eQ),.sl false (S.c.map eQ)]++eQ S.d),.agg ([.sl q (S.a.map λ r=>[AV.sl q (r.map eQ)]),.sl q (S.b.map eQ),.sl q (S.c.map eQ)]++eQ S.d)] (.bool true):=by
 have hD:=rG N.toa7 h.bd h.bd hk hk;rw[lD.2 rfl]at hD;have hB:=gV N.toa7 S.b S.b false q k h.bb h.bb hk (by have:=h.lb;omega);have hC:=gV N.toa7 S.c S.c false q k h.bc h.bc hk (by have:=h.lc;omega);rw[decide_eq_true rfl]at hB hC;have Ba:=h.la;refine Ev.x N.M7 rfl rfl ?_;(repeat' ((first|(apply AG<;>intro hc<;>try omega)|apply AQ|apply AD|refine AC (hB) ?_|refine AC (hC) ?_|refine AC (hD) ?_)<;>conv=>whnf))
 refine DF (λ i=>S.a.length-i) (λ(i:Nat)=>i<=S.a.length) (λ i=>[(5,.int .i64 i)]) (λ_=>[]) 0 (by omega) ?_;intro i p1 ih;by_cases hi:i<S.a.length
 ·obtain ⟨r,hr⟩ : ∃ r,S.a[i]? = some r:=⟨_,zE hi⟩
  have ml:S.a[(i:Int).toNat]? = some r:=hr;have gy:=h.ba r (zM hr);have bk:=h.lr r (zM hr);have hR:=gV N.toa7 r r false q k gy gy hk (by omega);rw[decide_eq_true rfl]at hR;(repeat' ((first|(apply AG<;>intro hc<;>try omega)|(apply A0;omega)|apply AQ|(refine A8 (by assumption) ?_ rfl ?_;omega)|apply AD|refine AC (hR) ?_)<;>conv=>whnf))
  exact BQ [] (ih (i+1) (by omega) (by omega))
 ·obtain rfl:i=S.a.length:=by omega
  clear ih;(repeat' ((first|(apply AG<;>intro hc<;>try omega)|apply AQ|apply AD)<;>conv=>whnf))
  exact HH rfl
theorem Bt.ng {k:Nat} {x:Rat} (h:Bt k x):Bt k (-x):=⟨by simpa using h.1,by simpa using h.2⟩
theorem Xa {B A:List Rat} {n:Nat} (hB:Bs 4 B) (hA:Bs 4 A):(B4 B A n).Ok n 80:=by
 have hs : ∀ i,Bt 80 (B.getD i 0-B.getD 0 0*A.getD i 0):=λ i=>by
  rw[Rat.sub_eq_add_neg];exact ((GH hB i).add ((GH hB 0).mul (GH hA i)).ng).le (by omega)
 have hu : ∀ j,Bs 80 (DE n j):=λ j x hx=>by
  simp only[DE,List.mem_map]at hx;obtain ⟨i,_,rfl⟩:=hx;split
  ·exact Bt.one _
  ·exact Bt.zero _
 refine ⟨fU B A n,pM,O9 _ _,fW B A n,?_,hu 0,?_,(GH hB 0).le (by omega)⟩
 ·intro r hr
  simp only[B4,List.mem_map]at hr;obtain ⟨i,_,rfl⟩:=hr;split
  ·intro x hx
   obtain ⟨j,_,rfl⟩:=List.mem_map.1 hx;exact (GH hA _).ng.le (by omega)
  ·exact hu _
 ·intro x hx
  simp only[B4,List.mem_map]at hx;obtain ⟨i,_,rfl⟩:=hx;exact hs _
theorem pO {l:List Rat} (h:l.getD 0 0≠0) : ∀ n,0<n->0<CP l n
 | 1,_=>by rw[CP,if_neg h];omega
 | n+2,_=>by
  rw[CP];split
  ·exact pO h (n+1) (by omega)
  ·omega
theorem Aix (l:List Rat):(BW (1::l))[0]? = some 1:=by
 have:=pO (l:=1::l) (show (1:Rat)≠0 by decide) (1::l).length (by simp)
 rw[BW,List.getElem?_take_of_lt this];rfl
def QO (b:List Int):List Rat:=BW (E3 b (EW b.length 5).toNat)
def PP (a:List Int):List Rat:=BW (1::E3 a (EW a.length 4).toNat)
theorem Bs.yo {k:Nat} {l:List Rat} (h:Bs k l):Bs k (1::l):=by
 intro x hx;rcases List.mem_cons.1 hx with rfl|hx
 ·exact Bt.one k
 ·exact h x hx
theorem Xx (W:v8 L) (N:bq L) (b a:List Int) (q1 q2:Bool) (hb : ∀ v∈b,G4 v) (ha : ∀ v∈a,G4 v) (lb:b.length<9223372036854775808) (la:a.length<9223372036854775808) :
  Ev L 214 [.sl q1 (b.map ON),.sl q2 (a.map ON)] (.agg [.sl false ((QO b).map eQ),.sl false ((PP a).map eQ)]):=by
 have T:az L:=N.toaz;have A:o5 L:=N.too5;have Nh:=iJ W (b.length:Int) 5 ⟨by omega,by omega⟩ (by omega);have Eb:=iJ W (a.length:Int) 4 ⟨by omega,by omega⟩ (by omega);obtain ⟨g1,g2⟩:=dU (v:=(b.length:Int)) (m:=5) (by omega);obtain ⟨g3,g4⟩:=dU (v:=(a.length:Int)) (m:=4) (by omega);obtain ⟨n,hn⟩:=Int.eq_ofNat_of_zero_le g1;obtain ⟨m,hm⟩:=Int.eq_ofNat_of_zero_le g3;unfold QO PP;rw[hn]at Nh g2 ⊢;rw[hm]at Eb g4 ⊢;rw[Int.toNat_natCast,Int.toNat_natCast];have Ds:=λ q=>gU T b q n hb (by omega)
 have Dt:=λ q=>gU T a q m ha (by omega)
 have hO:=QK A.toa7 1 (by omega);have l1:=Q2 b n;have l2:=Q2 a m;have b1:=ZD b n;have b2:=ZD a m;have yx:=λ q=>QL A.tou5 q (E3 b n) 4 b1 (by omega) (by omega)
 have re:=λ q=>QL A.tou5 q (1::E3 a m) 4 b2.yo (by omega) (by simp;omega)
 generalize E3 b n=X at *;generalize E3 a m=Y at *;refine Ev.x N.KR rfl rfl ?_;(repeat' ((first|apply AQ|apply AD|refine AC (Nh) ?_|refine AC (Ds _) ?_|refine AC (yx _) ?_|refine AC (hO) ?_|refine AC (Eb) ?_|refine AC (Dt _) ?_)<;>conv=>whnf))
 refine ZW (enc:=eQ) (l:=[((1:Int):Rat)]) rfl (λ_=>rfl) (by simp;omega) (by simp;omega) ?_;rw[show [((1:Int):Rat)]++Y=1::Y from rfl];(conv=>whnf)
 (repeat' ((first|(refine C7 (λ_=>rfl) rfl ?_ ?_;(first|rfl|simp))|refine AC (re _) ?_)<;>conv=>whnf))
 exact AW rfl (by
  simp only[A1,CD,true_and,and_true];exact ⟨GF _,GF _⟩)
theorem Zx:Bt 4 (Rat.divInt 1 2):=(Bt.mk (k:=4) (z:=1) (d:=2) (by decide) (by decide))
theorem Aee (N:bq L):Ev L 215 [] (.bool true):=by
 have A:o5 L:=N.too5;have hO:=QK A.toa7 1 (by omega);have hF:=sB A.toa7 1 2 (by omega) (by omega);have hh:=Zx;have m8 : -(Rat.divInt 1 2)≠0:=by decide
 generalize Rat.divInt 1 2=h at *;have hN:=hJ A.ton7 hh (by omega);have hA:Bs 4 [1,-h]:=λ x hx=>by
  rcases List.mem_cons.1 hx with rfl|hx
  ·exact Bt.one 4
  ·obtain rfl:=List.mem_singleton.1 hx
   exact hh.ng
 have hB:Bs 4 [(1:Rat)]:=λ x hx=>by
  obtain rfl:=List.mem_singleton.1 hx;exact Bt.one 4
 have tB:BW [(1:Rat)]=[1]:=by decide
 have tA:BW [1,-h]=[1,-h]:=by
  show List.take (if -h=0 then _ else 2) [1,-h]=_;rw[if_neg m8];rfl
 have hC:=rC A true true [1] [1,-h] 1 4 tB tA hB hA (by simp) (by simp) rfl rfl (by omega);have m4:(B4 [1] [1,-h] 1).Ok 1 80:=Xa hB hA;have e:B4 [1] [1,-h] 1=⟨[[h]],[1],[h],1⟩:=by
  have:B4 [1] [1,-h] 1=⟨[[- -h]],[1],[0-1 * -h],1⟩:=rfl
  rw[this,Rat.neg_neg,show 0-1 * -h=h by grind]
 rw[e]at hC m4;have hS:=Yw N.toig ⟨[[h]],[1],[h],1⟩ 1 80 true m4 (by omega) (by omega);refine Ev.x N.KS rfl rfl ?_;(repeat' ((first|(apply AG<;>intro hc<;>try omega)|refine G7 rfl ?_|refine XZ rfl rfl ?_|apply AD|refine AC (hO) ?_|refine AC (hF) ?_|refine AC (hN) ?_|refine AC (hC) ?_)<;>conv=>whnf))
 refine AU rfl ?_;(conv=>whnf)
 (repeat' ((first|refine G7 rfl ?_|refine AC (hS) ?_)<;>conv=>whnf))
 exact HH rfl
end Go.e8
namespace Go.e8
set_option maxHeartbeats 8000000
def GA (T U:List (List Rat)) (S:DQ) (n:Nat):DQ:=⟨EJ (EJ T S.a n) U n,A6 T S.b,A6 (EP U) S.c,S.d⟩
theorem Aiz {U:List (List Rat)} {n:Nat} (hU:Sq n U) (c:List Rat):A6 (EP U) c=GJ c U n:=by
 rw[A6,EP,List.map_map,hU.l,GJ];exact List.map_congr_left λ j _=>F4 _ _
theorem lG {T U:List (List Rat)} {S:DQ} {n k:Nat} (hS:S.Ok n k) (hU:Sq n U) (ef : ∀ v:List Rat,v.length=n->A6 U (A6 T v)=v) : ∀ j,(wQ S j).length=n/\wQ (GA T U S n) j=A6 T (wQ S j)
 | 0=>⟨hS.lb,rfl⟩
 | j+1=>by
  obtain ⟨h1,h2⟩:=lG hS hU ef j;refine ⟨by rw[wQ,GX];exact hS.la,?_⟩;show A6 (EJ (EJ T S.a n) U n) (wQ (GA T U S n) j)=A6 T (A6 S.a (wQ S j));rw[h2,cF _ _ _ hU.r,ef _ h1,cF _ _ _ hS.lr]
theorem AfJ {T U:List (List Rat)} {n:Nat} (hn:n<=2) (hT:Sq n T) (hU:Sq n U) (hb:Ms 4 T) (ef : ∀ v:List Rat,v.length=n->A6 U (A6 T v)=v):Ms 21 U:=by
 obtain rfl|rfl|rfl:n=0\/n=1\/n=2:=by omega
 ·have:=hU.l
  rw[List.length_eq_zero_iff]at this;subst this;intro r hr;cases hr
 ·obtain ⟨tl,tr⟩:=hT
  obtain ⟨ul,ur⟩:=hU;match T,tl with
  | [t],_ =>
   have h1:=tr t (by simp);match t,h1 with
   | [x],_ =>
    match U,ul with
    | [u],_ =>
     have h2:=ur u (by simp);match u,h2 with
     | [y],_ =>
      have h:=ef [1] rfl;simp only[A6,List.map_cons,List.map_nil,A2,List.cons.injEq,and_true]at h;have hx:Bt 4 x:=hb [x] (by simp) x (by simp);have h0:x≠0:=λ e=>by rw[e]at h;grind
      have e:y=x⁻¹:=by grind
      intro r hr;obtain rfl:=List.mem_singleton.1 hr;intro z hz;obtain rfl:=List.mem_singleton.1 hz;rw[e];exact hx.Gj.le (by omega)
 ·obtain ⟨tl,tr⟩:=hT
  obtain ⟨ul,ur⟩:=hU;match T,tl with
  | [t,s],_ =>
   have h1:=tr t (by simp);have h2:=tr s (by simp);match t,s,h1,h2 with
   | [a,b],[c,d],_,_ =>
    match U,ul with
    | [u,v],_ =>
     have h3:=ur u (by simp);have h4:=ur v (by simp);match u,v,h3,h4 with
     | [p,q],[r,s],_,_ =>
      have g1:=ef [1,0] rfl;have g2:=ef [0,1] rfl;simp only[A6,List.map_cons,List.map_nil,A2,List.cons.injEq,and_true]at g1 g2;obtain ⟨e1,e2⟩:=g1;obtain ⟨e3,e4⟩:=g2;have ha:Bt 4 a:=hb [a,b] (by simp) a (by simp);have fb:Bt 4 b:=hb [a,b] (by simp) b (by simp);have w4:Bt 4 c:=hb [c,d] (by simp) c (by simp);have hd:Bt 4 d:=hb [c,d] (by simp) d (by simp);have f1:p*a+q*c=1:=by grind
      have f2:r*a+s*c=0:=by grind
      have f3:p*b+q*d=0:=by grind
      have f4:r*b+s*d=1:=by grind
      clear e1 e2 e3 e4 ef;have k1:p*(a*d-b*c)=d:=by grind
      have k2:q*(a*d-b*c) = -b:=by grind
      have k3:r*(a*d-b*c) = -c:=by grind
      have k4:s*(a*d-b*c)=a:=by grind
      have hD:Bt 17 (a*d-b*c):=(ha.mul hd).qe (fb.mul w4);have h0:a*d-b*c≠0:=λ e=>by
       rw[e,Rat.mul_zero]at k1 k2 k3 k4;have:a=0:=k4.symm
       have:c=0:=by grind
       grind
      have key : ∀ x y:Rat,x*(a*d-b*c)=y->x=y/(a*d-b*c):=λ x y h=>by
       rw[<-h,Rat.div_def,Rat.mul_assoc,Rat.mul_inv_cancel _ h0,Rat.mul_one]
      intro w hw;simp only[List.mem_cons,List.not_mem_nil,or_false]at hw;rcases hw with rfl|rfl
      ·intro z hz
       simp only[List.mem_cons,List.not_mem_nil,or_false]at hz;rcases hz with rfl|rfl
       ·rw[key _ _ k1];exact hd.jr hD
       ·rw[key _ _ k2];exact (Bt.vm fb).jr hD
      ·intro z hz
       simp only[List.mem_cons,List.not_mem_nil,or_false]at hz;rcases hz with rfl|rfl
       ·rw[key _ _ k3];exact (Bt.vm w4).jr hD
       ·rw[key _ _ k4];exact ha.jr hD
theorem mF {U:List (List Rat)} {k:Nat} (h:Ms k U):Ms k (EP U):=λ r hr=>by
 obtain ⟨i,_,rfl⟩:=List.mem_map.1 hr;exact h.Mr i
theorem mG {U:List (List Rat)} {n:Nat} (h:Sq n U):Sq n (EP U):=⟨by rw[XJ,h.l],λ r hr=>by
 obtain ⟨i,_,rfl⟩:=List.mem_map.1 hr;rw[aQ,h.l]⟩
theorem lU (f g:Nat->Rat) : ∀ n,BS (λ i=>f i+g i) n=BS f n+BS g n
 | 0=>by simp only[BS];grind
 | n+1=>by
  have:=lU f g n
  simp only[BS]at this ⊢;rw[this];grind
theorem yT (f:Nat->Nat->Rat) (m:Nat) : ∀ n,BS (λ i=>BS (λ j=>f i j) m) n=BS (λ j=>BS (λ i=>f i j) n) m
 | 0=>by
  rw[BS];exact (O8 m λ j _=>rfl).symm
 | n+1=>by
  have e:(λ j=>BS (λ i=>f i j) (n+1))=λ j=>BS (λ i=>f i j) n+f n j:=rfl
  rw[e,lU,<-yT f m n];rfl
theorem kS {a b c d e f g h i p q r x y z:Rat} (e1:p*a+q*d+r*g=x) (e2:p*b+q*e+r*h=y) (e3:p*c+q*f+r*i=z) :
  p*(a*(e*i-f*h)-b*(d*i-f*g)+c*(d*h-e*g))=x*(e*i-f*h)+y*(f*g-d*i)+z*(d*h-e*g) /\
  q*(a*(e*i-f*h)-b*(d*i-f*g)+c*(d*h-e*g))=x*(c*h-b*i)+y*(a*i-c*g)+z*(b*g-a*h) /\
  r*(a*(e*i-f*h)-b*(d*i-f*g)+c*(d*h-e*g))=x*(b*f-c*e)+y*(c*d-a*f)+z*(a*e-b*d):=by
 subst e1 e2 e3;refine ⟨by grind,by grind,by grind⟩
theorem Vs (a b c d e f g h i p q r s t u v w x:Rat) :
  (p*a+q*d+r*g)*((s*b+t*e+u*h)*(v*c+w*f+x*i)-(s*c+t*f+u*i)*(v*b+w*e+x*h))-(p*b+q*e+r*h)*((s*a+t*d+u*g)*(v*c+w*f+x*i)-(s*c+t*f+u*i)*(v*a+w*d+x*g))+(p*c+q*f+r*i)*((s*a+t*d+u*g)*(v*b+w*e+x*h)-(s*b+t*e+u*h)*(v*a+w*d+x*g))
  = (p*(t*x-u*w)-q*(s*x-u*v)+r*(s*w-t*v))*(a*(e*i-f*h)-b*(d*i-f*g)+c*(d*h-e*g)):=by grind
theorem AfK {T U:List (List Rat)} (hT:Sq 3 T) (hU:Sq 3 U) (hb:Ms 4 T) (ef : ∀ v:List Rat,v.length=3->A6 U (A6 T v)=v):Ms 82 U:=by
 obtain ⟨tl,tr⟩:=hT;obtain ⟨ul,ur⟩:=hU;match T,tl with
 | [t1,t2,t3],_ =>
  have l1:=tr t1 (by simp);have l2:=tr t2 (by simp);have l3:=tr t3 (by simp);match t1,t2,t3,l1,l2,l3 with
  | [a,b,c],[d,e,f],[g,h,i],_,_,_ =>
   match U,ul with
   | [u1,u2,u3],_ =>
    have m1:=ur u1 (by simp);have m2:=ur u2 (by simp);have m3:=ur u3 (by simp);match u1,u2,u3,m1,m2,m3 with
    | [p,q,r],[s,t,u],[v,w,x],_,_,_ =>
     have g1:=ef [1,0,0] rfl;have g2:=ef [0,1,0] rfl;have g3:=ef [0,0,1] rfl;simp only[A6,List.map_cons,List.map_nil,A2,List.cons.injEq,and_true]at g1 g2 g3;obtain ⟨a1,a2,a3⟩:=g1;obtain ⟨b1,b2,b3⟩:=g2;obtain ⟨c1,c2,c3⟩:=g3;have ha:Bt 4 a:=hb [a,b,c] (by simp) a (by simp);have fb:Bt 4 b:=hb [a,b,c] (by simp) b (by simp);have w4:Bt 4 c:=hb [a,b,c] (by simp) c (by simp);have hd:Bt 4 d:=hb [d,e,f] (by simp) d (by simp);have xm:Bt 4 e:=hb [d,e,f] (by simp) e (by simp);have zf:Bt 4 f:=hb [d,e,f] (by simp) f (by simp);have hg:Bt 4 g:=hb [g,h,i] (by simp) g (by simp);have hh:Bt 4 h:=hb [g,h,i] (by simp) h (by simp);have hi:Bt 4 i:=hb [g,h,i] (by simp) i (by simp);have p1:p*a+q*d+r*g=1:=by grind
     have p2:p*b+q*e+r*h=0:=by grind
     have p3:p*c+q*f+r*i=0:=by grind
     have q1:s*a+t*d+u*g=0:=by grind
     have q2:s*b+t*e+u*h=1:=by grind
     have q3:s*c+t*f+u*i=0:=by grind
     have r1:v*a+w*d+x*g=0:=by grind
     have r2:v*b+w*e+x*h=0:=by grind
     have r3:v*c+w*f+x*i=1:=by grind
     clear a1 a2 a3 b1 b2 b3 c1 c2 c3 ef;have Jp:=Vs a b c d e f g h i p q r s t u v w x;rw[p1,p2,p3,q1,q2,q3,r1,r2,r3]at Jp;obtain ⟨j1,j2,j3⟩:=kS p1 p2 p3;obtain ⟨j4,j5,j6⟩:=kS q1 q2 q3;obtain ⟨j7,j8,j9⟩:=kS r1 r2 r3;have mn : ∀ {x1 x2 x3 x4:Rat},Bt 4 x1->Bt 4 x2->Bt 4 x3->Bt 4 x4->Bt 17 (x1*x2-x3*x4):=λ h1 h2 h3 h4=>(h1.mul h2).qe (h3.mul h4)
     have hD:Bt 65 (a*(e*i-f*h)-b*(d*i-f*g)+c*(d*h-e*g)):=((ha.mul (mn xm hi zf hh)).qe (fb.mul (mn hd hi zf hg))).add (w4.mul (mn hd hh xm hg));generalize a*(e*i-f*h)-b*(d*i-f*g)+c*(d*h-e*g)=D at *;have h0:D≠0:=λ e0=>by
      rw[e0,Rat.mul_zero]at Jp;grind
     have key : ∀ {x m:Rat},x*D=m->Bt 17 m->Bt 82 x:=λ{x m} h1 h2=>by
      have e:x=m/D:=by rw[<-h1,Rat.div_def,Rat.mul_assoc,Rat.mul_inv_cancel _ h0,Rat.mul_one]
      rw[e];exact h2.jr hD
     clear p1 p2 p3 q1 q2 q3 r1 r2 r3 Jp;simp only[Rat.one_mul,Rat.zero_mul,Rat.add_zero,Rat.zero_add]at j1 j2 j3 j4 j5 j6 j7 j8 j9;have k1:=key j1 (mn xm hi zf hh);have k2:=key j2 (mn w4 hh fb hi);have k3:=key j3 (mn fb zf w4 xm);have k4:=key j4 (mn zf hg hd hi);have k5:=key j5 (mn ha hi w4 hg);have k6:=key j6 (mn w4 hd ha zf);have k7:=key j7 (mn hd hh xm hg);have k8:=key j8 (mn fb hg ha hh);have k9:=key j9 (mn ha xm fb hd);intro y hy;simp only[List.mem_cons,List.not_mem_nil,or_false]at hy;rcases hy with rfl|rfl|rfl
     all_goals
      intro z hz;simp only[List.mem_cons,List.not_mem_nil,or_false]at hz;rcases hz with rfl|rfl|rfl
      all_goals assumption
theorem AfL {T U:List (List Rat)} {n:Nat} (hn:n<=3) (hT:Sq n T) (hU:Sq n U) (hb:Ms 4 T) (ef : ∀ v:List Rat,v.length=n->A6 U (A6 T v)=v):Ms 82 U:=by
 by_cases h:n=3
 ·subst h;exact AfK hT hU hb ef
 ·exact (AfJ (by omega) hT hU hb ef).le (by omega)
theorem cG {m:List (List Rat)} {b:List Rat} {n k l:Nat} (hs:Sq n m) (hm:Ms k m) (hb:Bs l b) (hn:n<=3):Bs (3*(k+l+1)) (A6 m b):=λ x hx=>by
 obtain ⟨r,hr,rfl⟩:=List.mem_map.1 hx;refine ((hm r hr).dot hb).le ?_;rw[hs.r r hr];exact zR _ hn
theorem lV (c:Rat) (f:Nat->Rat) : ∀ n,BS (λ i=>c*f i) n=c*BS f n
 | 0=>by simp only[BS];grind
 | n+1=>by
  have:=lV c f n
  simp only[BS]at this ⊢;rw[this];grind
def EZ (p:List Rat) (y:Nat->Rat) (k:Nat):Rat:=BS (λ i=>p.getD i 0*y (k+i)) p.length
theorem IR (p:List Rat) (y:Nat->Rat) (k:Nat) {n:Nat} (h:p.length<=n):EZ p y k=BS (λ i=>p.getD i 0*y (k+i)) n:=by
 obtain ⟨d,rfl⟩ : ∃ d,n=p.length+d:=⟨n-p.length,by omega⟩;exact (lX d λ j hj=>by rw[JV hj,Rat.zero_mul]).symm
theorem Tk {p r:List Rat} (h : ∀ i,p.getD i 0=r.getD i 0) (y:Nat->Rat) (k:Nat):EZ p y k=EZ r y k:=by
 rw[IR p y k (Nat.le_max_left p.length r.length),IR r y k (Nat.le_max_right p.length r.length)];exact JE _ λ j _=>by rw[h]
theorem nS (p:List Rat) (y:Nat->Rat) (k:Nat):EZ (BW p) y k=EZ p y k:=Tk (λ i=>Aiw p i) y k
theorem nQ (p:List Rat) (c:Rat) (y:Nat->Rat) (k:Nat):EZ (p.map (· * c)) y k=c*EZ p y k:=by
 rw[EZ,EZ,List.length_map,<-lV];refine JE _ λ j hj => ?_
 have e:(p.map (· * c)).getD j 0=p.getD j 0*c:=by
  rw[List.getD_eq_getElem?_getD,List.getD_eq_getElem?_getD,List.getElem?_map];cases p[j]? with
  | none=>simp [Rat.zero_mul]
  | some x=>rfl
 rw[e];grind
theorem nR {u p q:List Rat} {c:Rat} {d:Nat} (h : ∀ j,u.getD j 0=p.getD j 0-if d<=j then c*q.getD (j-d) 0 else 0) (y:Nat->Rat) (k:Nat):EZ u y k=EZ p y k-c*EZ q y (k+d):=by
 have hu:u.length<=d+(u.length+p.length+q.length):=by omega
 have hp:p.length<=d+(u.length+p.length+q.length):=by omega
 have hq:q.length<=u.length+p.length+q.length:=by omega
 rw[IR u y k hu,IR p y k hp,IR q y (k+d) hq];generalize u.length+p.length+q.length=m;have hs : ∀ m,BS (λ i=>(if d<=i then c*q.getD (i-d) 0 else 0)*y (k+i)) (d+m)=c*BS (λ i=>q.getD i 0*y (k+d+i)) m:=by
  intro m;induction m with
  | zero =>
   show BS _ d=c*0;rw[Rat.mul_zero];exact O8 _ λ j hj=>by rw[if_neg (by omega),Rat.zero_mul]
  | succ m ih =>
   show BS _ (d+m)+(if d<=d+m then c*q.getD (d+m-d) 0 else 0)*y (k+(d+m))=c*(BS _ m+q.getD m 0*y (k+d+m));rw[ih,if_pos (by omega),show d+m-d=m by omega,show k+(d+m)=k+d+m by omega];grind
 rw[<-hs];have e:BS (λ i=>p.getD i 0*y (k+i)) (d+m)=BS (λ i=>u.getD i 0*y (k+i)) (d+m)+BS (λ i=>(if d<=i then c*q.getD (i-d) 0 else 0)*y (k+i)) (d+m):=by
  rw[<-lU];exact JE _ λ j _=>by rw[h];grind
 rw[e];grind
def C2 (p:List Rat) (y:Nat->Rat):Prop := ∀ k,EZ p y k=0
def J9 (p q:List Rat):Prop := ∃ y:Nat->Rat,C2 p y/\C2 q y /\ ∃ j,y j≠0
theorem C2.trim {p:List Rat} {y:Nat->Rat}:C2 (BW p) y↔C2 p y:=⟨λ h k=>by rw[<-nS];exact h k,λ h k=>by rw[nS];exact h k⟩
theorem C2.scale {p:List Rat} {c:Rat} {y:Nat->Rat} (hc:c≠0):C2 (p.map (· * c)) y↔C2 p y :=
 ⟨λ h k=>by
  have:=h k
  rw[nQ]at this;rcases Rat.mul_eq_zero.1 this with e|e
  ·exact absurd e hc
  ·exact e,λ h k=>by rw[nQ,h k,Rat.mul_zero]⟩
theorem C2.step {u p q:List Rat} {c:Rat} {d:Nat} (h : ∀ j,u.getD j 0=p.getD j 0-if d<=j then c*q.getD (j-d) 0 else 0) {y:Nat->Rat} (hq:C2 q y):C2 u y↔C2 p y :=
 ⟨λ hu k=>by have:=hu k;rw[nR h,hq]at this;grind,λ hp k=>by rw[nR h,hq,hp];grind⟩
theorem C2.nil (y:Nat->Rat):C2 [] y:=λ_=>rfl
theorem eI {p:List Rat} {n:Nat} (hl:p.length=n+1) (y:Nat->Rat) (k:Nat):EZ p y k=BS (λ i=>p.getD i 0*y (k+i)) n+p.getD n 0*y (k+n):=by rw[EZ,hl];rfl
theorem QB {p:List Rat} {n:Nat} (hl:p.length=n+1) (hn:p.getD n 0≠0) {y:Nat->Rat} (h:C2 p y) (h0 : ∀ j,j<n->y j=0) (j:Nat):y j=0:=by
 induction j using Nat.strongRecOn with
 | _ j ih =>
  by_cases hj:j<n
  ·exact h0 j hj
  ·have h1:=h (j-n)
   rw[eI hl,O8 n (λ i hi=>by rw[ih _ (by omega),Rat.mul_zero]),Rat.zero_add,show j-n+n=j by omega]at h1;exact (Rat.mul_eq_zero.1 h1).resolve_left hn
def kB (p:List Rat) (n:Nat) (l:List Rat):Rat := -(BS (λ i=>p.getD i 0*l.getD (l.length-n+i) 0) n)/p.getD n 0
def FU (p:List Rat) (n:Nat) (l:List Rat):Nat->List Rat
 | 0=>l
 | t+1=>FU p n l t++[kB p n (FU p n l t)]
theorem iV (p:List Rat) (n:Nat) (l:List Rat) : ∀ t,(FU p n l t).length=l.length+t
 | 0=>rfl
 | t+1=>by rw[FU,List.length_append,iV p n l t];rfl
theorem iU (p:List Rat) (n:Nat) (l:List Rat) {j t:Nat} (hj:j<l.length+t) : ∀ s,(FU p n l (t+s)).getD j 0=(FU p n l t).getD j 0
 | 0=>rfl
 | s+1=>by
  show (FU p n l (t+s)++_).getD j 0=_;rw[List.getD_eq_getElem?_getD,List.getElem?_append_left (by rw[iV];omega),<-List.getD_eq_getElem?_getD,iU p n l hj s]
theorem wW {p:List Rat} {n:Nat} (hl:p.length=n+1) (hn:p.getD n 0≠0) (l:List Rat) (hm:n<=l.length) : ∃ y:Nat->Rat,(∀ j,j<l.length->y j=l.getD j 0) /\ ∀ k,l.length<=k+n->EZ p y k=0:=by
 have hy : ∀ j t,j<l.length+t->(FU p n l j.succ).getD j 0=(FU p n l t).getD j 0:=λ j t h=>by
  by_cases h1:t<=j+1
  ·obtain ⟨s,hs⟩ : ∃ s,j.succ=t+s:=⟨j+1-t,by omega⟩
   rw[hs,iU p n l h]
  ·obtain ⟨s,hs⟩ : ∃ s,t=j.succ+s:=⟨t-(j+1),by omega⟩
   rw[hs,iU p n l (by omega)]
 refine ⟨λ j=>(FU p n l j.succ).getD j 0,λ j hj=>hy j 0 (by omega),λ k hk => ?_⟩;rw[eI hl];obtain ⟨t,ht⟩ : ∃ t,k+n=l.length+t:=⟨k+n-l.length,by omega⟩;have m9:=iV p n l t;have e1:BS (λ i=>p.getD i 0*(λ j=>(FU p n l j.succ).getD j 0) (k+i)) n=BS (λ i=>p.getD i 0*(FU p n l t).getD ((FU p n l t).length-n+i) 0) n :=
  JE _ λ i hi=>by
   show p.getD i 0*(FU p n l (k+i).succ).getD (k+i) 0=_;rw[hy (k+i) t (by omega),m9,show l.length+t-n+i=k+i by omega]
 have e2:(FU p n l (k+n).succ).getD (k+n) 0=kB p n (FU p n l t):=by
  rw[hy (k+n) (t+1) (by omega),FU,List.getD_eq_getElem?_getD,List.getElem?_append_right (by omega),m9,show k+n-(l.length+t)=0 by omega];rfl
 rw[e1];show _+p.getD n 0*(FU p n l (k+n).succ).getD (k+n) 0=0;rw[e2,kB];generalize BS (λ i=>p.getD i 0*(FU p n l t).getD ((FU p n l t).length-n+i) 0) n=s;rw[Rat.div_def];generalize hd:p.getD n 0=d at *;have:=Rat.mul_inv_cancel d hn
 grind
theorem Wu {g:List Rat} (hg:BW g=g) (h0:0<g.length):J9 g []↔g.length≠1:=by
 obtain ⟨n,hn⟩ : ∃ n,g.length=n+1:=⟨g.length-1,by omega⟩;have hz:=RC hg (by omega);rw[hn,Nat.add_sub_cancel]at hz;constructor
 ·rintro ⟨y,h1,_,j,hj⟩ h
  exact hj (QB hn hz h1 (λ i hi=>by omega) j)
 ·intro h
  have hu:(List.replicate (n-1) (0:Rat)++[1]).length=n:=by simp;omega
  obtain ⟨y,h1,h2⟩:=wW hn hz (List.replicate (n-1) 0++[1]) (by omega);refine ⟨y,λ k=>h2 k (by omega),C2.nil y,n-1,?_⟩;rw[h1 _ (by omega),List.getD_eq_getElem?_getD,List.getElem?_append_right (by simp),List.length_replicate,Nat.sub_self];decide
theorem Tj (p q:List Rat) (y:Nat->Rat) (k:Nat):EZ p (EZ q y) k=EZ q (EZ p y) k:=by
 have h : ∀ (p q:List Rat),EZ p (EZ q y) k=BS (λ i=>BS (λ j=>p.getD i 0*q.getD j 0*y (k+i+j)) q.length) p.length:=λ p q=>by
  rw[EZ];refine JE _ λ i _ => ?_
  rw[EZ,<-lV];exact JE _ λ j _=>by rw[Rat.mul_assoc]
 rw[h p q,h q p,yT];refine JE _ λ i _=>JE _ λ j _ => ?_
 rw[show k+j+i=k+i+j by omega];grind
theorem V8 {f g:List Rat} {n:Nat} (hl:f.length=n+1) (hn:f.getD n 0≠0) (hg:g.length<=n+1) (l:List Rat) (hw:l.length=2*n) (h1 : ∀ k,k<n->BS (λ i=>f.getD i 0*l.getD (k+i) 0) (n+1)=0) (h2 : ∀ k,k<n->BS (λ i=>g.getD i 0*l.getD (k+i) 0) (n+1)=0) (h0 : ∃ j,j<2*n/\l.getD j 0≠0) : ∃ y,C2 f y/\C2 g y /\ ∃ j,y j≠0:=by
 obtain ⟨y,e1,e2⟩:=wW hl hn l (by omega);have hf:C2 f y:=λ k=>by
  by_cases hk:k<n
  ·rw[IR f y k (Nat.le_of_eq hl)]
   refine Eq.trans ?_ (h1 k hk);exact JE _ λ i hi=>by rw[e1 _ (by omega)]
  ·exact e2 k (by omega)
 refine ⟨y,hf,λ k => ?_,?_⟩
 ·refine QB hl hn (y:=EZ g y) (λ k => ?_) (λ k hk => ?_) k
  ·rw[Tj]
   show BS _ _=0;exact O8 _ λ j _=>by rw[hf,Rat.mul_zero]
  ·rw[IR g y k hg]
   refine Eq.trans ?_ (h2 k hk);exact JE _ λ i hi=>by rw[e1 _ (by omega)]
 ·obtain ⟨j,h3,h4⟩:=h0
  exact ⟨j,by rw[e1 j (by omega)];exact h4⟩
theorem Ahh {a:List (List Rat)} {n r:Nat} (h:Z0 a n r) (hr:r<=n):r=n↔NS n a:=by
 obtain ⟨m,P,e,k,rfl⟩:=h;constructor
 ·intro hP X hX hk j
  exact e.full hP (Nat.le_refl n) ((k X).2 hk) (λ j hj=>JV (by omega)) j
 ·intro jz
  refine Classical.byContradiction λ hP => ?_
  obtain ⟨X,hX,hk,_,j,hj⟩:=e.less (by omega) (Nat.le_refl n);exact hj (jz X hX ((k X).1 hk) j)
def dn (a:List (List Rat)) (n i:Nat):Rat:=if i<n then Acc a n i else 0
def oQ (S:DQ):Nat->List Rat
 | 0=>S.c
 | j+1=>A6 (EP S.a) (oQ S j)
def J4 (S:DQ) (n:Nat):List (List Rat):=(List.range n).map (wQ S)
def H4 (S:DQ) (n:Nat):List (List Rat):=(List.range n).map (oQ S)
theorem VB {S:DQ} {n:Nat} {X:List Rat}:ED (J4 S n) X ↔ ∀ j,j<n->A2 (wQ S j) X=0:=by
 constructor
 ·intro h j hj
  exact h _ (List.mem_map.2 ⟨j,List.mem_range.2 hj,rfl⟩)
 ·intro h r hr
  obtain ⟨j,hj,rfl⟩:=List.mem_map.1 hr;exact h j (List.mem_range.1 hj)
theorem OX {S:DQ} {n:Nat} {X:List Rat}:ED (H4 S n) X ↔ ∀ j,j<n->A2 (oQ S j) X=0:=by
 constructor
 ·intro h j hj
  exact h _ (List.mem_map.2 ⟨j,List.mem_range.2 hj,rfl⟩)
 ·intro h r hr
  obtain ⟨j,hj,rfl⟩:=List.mem_map.1 hr;exact h j (List.mem_range.1 hj)
theorem Ahk (B A:List Rat):NS 1 (J4 (B4 B A 1) 1):=by
 intro X hX hk j;rw[VB]at hk;match X,hX with
 | [x1],_ =>
  have r0:1*x1+(0)=0:=hk 0 (by omega);clear hk;have f0:x1=0:=by grind
  match j with
  | 0=>exact f0
  | j+1=>rfl
theorem AhN {B A:List Rat} (h0:A.getD 0 0=1) (lB:B.length<=2) (lA:A.length<=2) (hF:(B.length=2/\B.getD 1 0≠0)\/(A.length=2/\A.getD 1 0≠0)):NS 1 (H4 (B4 B A 1) 1) ↔ ¬ J9 B A:=by
 constructor
 ·rintro jz ⟨y,hB,hA,j0,lj⟩
  have p0:=hA 0;have q0:=hB 0;rw[IR A y _ lA]at p0;rw[IR B y _ lB]at q0;have p0:0+A.getD 0 0*y 0+A.getD 1 0*y 1=0:=p0;have q0:0+B.getD 0 0*y 0+B.getD 1 0*y 1=0:=q0;have hk:ED (H4 (B4 B A 1) 1) [y 1]:=by
   rw[OX];intro j hj;obtain rfl:j=0:=by omega
   ·show (B.getD 1 0-B.getD 0 0*A.getD 1 0)*(y 1)+(0)=0
    clear jz hB hA lB lA hF lj;generalize A.getD 0 0=a0 at *;generalize B.getD 0 0=b0 at *;generalize A.getD 1 0=a1 at *;generalize B.getD 1 0=b1 at *;generalize y 0=v0 at *;generalize y 1=v1 at *;grind
  have z1:y 1=0:=jz _ rfl hk 0;have z0:y 0=0:=by rw[z1,h0]at p0;grind
  have hz : ∀ j,j<1->y j=0:=λ j hj=>by
   obtain rfl:j=0:=by omega
   ·exact z0
  rcases hF with ⟨h1,h2⟩|⟨h1,h2⟩
  ·exact lj (QB h1 h2 hB hz j0)
  ·exact lj (QB h1 h2 hA hz j0)
 ·intro hc X hX hk j
  rw[OX]at hk;refine Classical.byContradiction λ hj=>hc ?_
  match X,hX with
  | [x1],_ =>
   have r0:(B.getD 1 0-B.getD 0 0*A.getD 1 0)*x1+(0)=0:=hk 0 (by omega);obtain ⟨y0,e0⟩ : ∃ y,y = -(A.getD 1 0*x1):=⟨_,rfl⟩;have hA : ∀ k,k<1->BS (λ i=>A.getD i 0*[y0,x1].getD (k+i) 0) (1+1)=0:=by
    intro k jd;obtain rfl:k=0:=by omega
    ·show 0+A.getD 0 0*y0+A.getD 1 0*x1=0
     clear hF hc hk hj lA lB;generalize A.getD 0 0=a0 at *;generalize B.getD 0 0=b0 at *;generalize A.getD 1 0=a1 at *;generalize B.getD 1 0=b1 at *;grind
   have hB : ∀ k,k<1->BS (λ i=>B.getD i 0*[y0,x1].getD (k+i) 0) (1+1)=0:=by
    intro k jd;obtain rfl:k=0:=by omega
    ·show 0+B.getD 0 0*y0+B.getD 1 0*x1=0
     clear hF hc hk hj lA lB;generalize A.getD 0 0=a0 at *;generalize B.getD 0 0=b0 at *;generalize A.getD 1 0=a1 at *;generalize B.getD 1 0=b1 at *;grind
   have m8 : ∃ j,j<2*1/\[y0,x1].getD j 0≠0:=by
    by_cases Kd:j<1
    ·exact ⟨1+j,by omega,by
      obtain rfl:j=0:=by omega
      ·exact hj⟩
    ·exact absurd (JV (by simp only[List.length_cons,List.length_nil];omega)) hj
   rcases hF with ⟨h1,h2⟩|⟨h1,h2⟩
   ·obtain ⟨y,g1,g2,g3⟩:=V8 h1 h2 lA [y0,x1] rfl hB hA m8
    exact ⟨y,g1,g2,g3⟩
   ·obtain ⟨y,g1,g2,g3⟩:=V8 h1 h2 lB [y0,x1] rfl hA hB m8
    exact ⟨y,g2,g1,g3⟩
theorem Ahl (B A:List Rat):NS 2 (J4 (B4 B A 2) 2):=by
 intro X hX hk j;rw[VB]at hk;match X,hX with
 | [x1,x2],_ =>
  have r0:1*x1+(0*x2+(0))=0:=hk 0 (by omega);have r1:(-(A.getD 1 0)*1+(-(A.getD 2 0)*0+(0)))*x1+((1*1+(0*0+(0)))*x2+(0))=0:=hk 1 (by omega);clear hk;have f0:x1=0:=by grind
  have f1:x2=0:=by grind
  match j with
  | 0=>exact f0
  | 1=>exact f1
  | j+2=>rfl
theorem AhO {B A:List Rat} (h0:A.getD 0 0=1) (lB:B.length<=3) (lA:A.length<=3) (hF:(B.length=3/\B.getD 2 0≠0)\/(A.length=3/\A.getD 2 0≠0)):NS 2 (H4 (B4 B A 2) 2) ↔ ¬ J9 B A:=by
 constructor
 ·rintro jz ⟨y,hB,hA,j0,lj⟩
  have p0:=hA 0;have q0:=hB 0;have p1:=hA 1;have q1:=hB 1;rw[IR A y _ lA]at p0 p1;rw[IR B y _ lB]at q0 q1;have p0:0+A.getD 0 0*y 0+A.getD 1 0*y 1+A.getD 2 0*y 2=0:=p0;have q0:0+B.getD 0 0*y 0+B.getD 1 0*y 1+B.getD 2 0*y 2=0:=q0;have p1:0+A.getD 0 0*y 1+A.getD 1 0*y 2+A.getD 2 0*y 3=0:=p1;have q1:0+B.getD 0 0*y 1+B.getD 1 0*y 2+B.getD 2 0*y 3=0:=q1;have hk:ED (H4 (B4 B A 2) 2) [y 2,y 3]:=by
   rw[OX];intro j hj;obtain rfl|rfl:j=0\/j=1:=by omega
   ·show (B.getD 1 0-B.getD 0 0*A.getD 1 0)*(y 2)+((B.getD 2 0-B.getD 0 0*A.getD 2 0)*(y 3)+(0))=0
    clear jz hB hA lB lA hF lj;generalize A.getD 0 0=a0 at *;generalize B.getD 0 0=b0 at *;generalize A.getD 1 0=a1 at *;generalize B.getD 1 0=b1 at *;generalize A.getD 2 0=a2 at *;generalize B.getD 2 0=b2 at *;generalize y 0=v0 at *;generalize y 1=v1 at *;generalize y 2=v2 at *;generalize y 3=v3 at *;grind
   ·show (-(A.getD 1 0)*(B.getD 1 0-B.getD 0 0*A.getD 1 0)+(1*(B.getD 2 0-B.getD 0 0*A.getD 2 0)+(0)))*(y 2)+((-(A.getD 2 0)*(B.getD 1 0-B.getD 0 0*A.getD 1 0)+(0*(B.getD 2 0-B.getD 0 0*A.getD 2 0)+(0)))*(y 3)+(0))=0
    clear jz hB hA lB lA hF lj;generalize A.getD 0 0=a0 at *;generalize B.getD 0 0=b0 at *;generalize A.getD 1 0=a1 at *;generalize B.getD 1 0=b1 at *;generalize A.getD 2 0=a2 at *;generalize B.getD 2 0=b2 at *;generalize y 0=v0 at *;generalize y 1=v1 at *;generalize y 2=v2 at *;generalize y 3=v3 at *;grind
  have z2:y 2=0:=jz _ rfl hk 0;have z3:y 3=0:=jz _ rfl hk 1;have z1:y 1=0:=by rw[z2,z3,h0]at p1;grind
  have z0:y 0=0:=by rw[z1,z2,h0]at p0;grind
  have hz : ∀ j,j<2->y j=0:=λ j hj=>by
   obtain rfl|rfl:j=0\/j=1:=by omega
   ·exact z0
   ·exact z1
  rcases hF with ⟨h1,h2⟩|⟨h1,h2⟩
  ·exact lj (QB h1 h2 hB hz j0)
  ·exact lj (QB h1 h2 hA hz j0)
 ·intro hc X hX hk j
  rw[OX]at hk;refine Classical.byContradiction λ hj=>hc ?_
  match X,hX with
  | [x1,x2],_ =>
   have r0:(B.getD 1 0-B.getD 0 0*A.getD 1 0)*x1+((B.getD 2 0-B.getD 0 0*A.getD 2 0)*x2+(0))=0:=hk 0 (by omega);have r1:(-(A.getD 1 0)*(B.getD 1 0-B.getD 0 0*A.getD 1 0)+(1*(B.getD 2 0-B.getD 0 0*A.getD 2 0)+(0)))*x1+((-(A.getD 2 0)*(B.getD 1 0-B.getD 0 0*A.getD 1 0)+(0*(B.getD 2 0-B.getD 0 0*A.getD 2 0)+(0)))*x2+(0))=0:=hk 1 (by omega);obtain ⟨y1,e1⟩ : ∃ y,y = -(A.getD 1 0*x1+A.getD 2 0*x2):=⟨_,rfl⟩;obtain ⟨y0,e0⟩ : ∃ y,y = -(A.getD 1 0*y1+A.getD 2 0*x1):=⟨_,rfl⟩;have hA : ∀ k,k<2->BS (λ i=>A.getD i 0*[y0,y1,x1,x2].getD (k+i) 0) (2+1)=0:=by
    intro k jd;obtain rfl|rfl:k=0\/k=1:=by omega
    ·show 0+A.getD 0 0*y0+A.getD 1 0*y1+A.getD 2 0*x1=0
     clear hF hc hk hj lA lB;generalize A.getD 0 0=a0 at *;generalize B.getD 0 0=b0 at *;generalize A.getD 1 0=a1 at *;generalize B.getD 1 0=b1 at *;generalize A.getD 2 0=a2 at *;generalize B.getD 2 0=b2 at *;grind
    ·show 0+A.getD 0 0*y1+A.getD 1 0*x1+A.getD 2 0*x2=0
     clear hF hc hk hj lA lB;generalize A.getD 0 0=a0 at *;generalize B.getD 0 0=b0 at *;generalize A.getD 1 0=a1 at *;generalize B.getD 1 0=b1 at *;generalize A.getD 2 0=a2 at *;generalize B.getD 2 0=b2 at *;grind
   have hB : ∀ k,k<2->BS (λ i=>B.getD i 0*[y0,y1,x1,x2].getD (k+i) 0) (2+1)=0:=by
    intro k jd;obtain rfl|rfl:k=0\/k=1:=by omega
    ·show 0+B.getD 0 0*y0+B.getD 1 0*y1+B.getD 2 0*x1=0
     clear hF hc hk hj lA lB;generalize A.getD 0 0=a0 at *;generalize B.getD 0 0=b0 at *;generalize A.getD 1 0=a1 at *;generalize B.getD 1 0=b1 at *;generalize A.getD 2 0=a2 at *;generalize B.getD 2 0=b2 at *;grind
    ·show 0+B.getD 0 0*y1+B.getD 1 0*x1+B.getD 2 0*x2=0
     clear hF hc hk hj lA lB;generalize A.getD 0 0=a0 at *;generalize B.getD 0 0=b0 at *;generalize A.getD 1 0=a1 at *;generalize B.getD 1 0=b1 at *;generalize A.getD 2 0=a2 at *;generalize B.getD 2 0=b2 at *;grind
   have m8 : ∃ j,j<2*2/\[y0,y1,x1,x2].getD j 0≠0:=by
    by_cases Kd:j<2
    ·exact ⟨2+j,by omega,by
      obtain rfl|rfl:j=0\/j=1:=by omega
      ·exact hj
      ·exact hj⟩
    ·exact absurd (JV (by simp only[List.length_cons,List.length_nil];omega)) hj
   rcases hF with ⟨h1,h2⟩|⟨h1,h2⟩
   ·obtain ⟨y,g1,g2,g3⟩:=V8 h1 h2 lA [y0,y1,x1,x2] rfl hB hA m8
    exact ⟨y,g1,g2,g3⟩
   ·obtain ⟨y,g1,g2,g3⟩:=V8 h1 h2 lB [y0,y1,x1,x2] rfl hA hB m8
    exact ⟨y,g2,g1,g3⟩
theorem Ahm (B A:List Rat):NS 3 (J4 (B4 B A 3) 3):=by
 intro X hX hk j;rw[VB]at hk;match X,hX with
 | [x1,x2,x3],_ =>
  have r0:1*x1+(0*x2+(0*x3+(0)))=0:=hk 0 (by omega);have r1:(-(A.getD 1 0)*1+(-(A.getD 2 0)*0+(-(A.getD 3 0)*0+(0))))*x1+((1*1+(0*0+(0*0+(0))))*x2+((0*1+(1*0+(0*0+(0))))*x3+(0)))=0:=hk 1 (by omega);have r2:(-(A.getD 1 0)*(-(A.getD 1 0)*1+(-(A.getD 2 0)*0+(-(A.getD 3 0)*0+(0))))+(-(A.getD 2 0)*(1*1+(0*0+(0*0+(0))))+(-(A.getD 3 0)*(0*1+(1*0+(0*0+(0))))+(0))))*x1+((1*(-(A.getD 1 0)*1+(-(A.getD 2 0)*0+(-(A.getD 3 0)*0+(0))))+(0*(1*1+(0*0+(0*0+(0))))+(0*(0*1+(1*0+(0*0+(0))))+(0))))*x2+((0*(-(A.getD 1 0)*1+(-(A.getD 2 0)*0+(-(A.getD 3 0)*0+(0))))+(1*(1*1+(0*0+(0*0+(0))))+(0*(0*1+(1*0+(0*0+(0))))+(0))))*x3+(0)))=0:=hk 2 (by omega);clear hk;have f0:x1=0:=by grind
  have f1:x2=0:=by grind
  have f2:x3=0:=by grind
  match j with
  | 0=>exact f0
  | 1=>exact f1
  | 2=>exact f2
  | j+3=>rfl
theorem AhP {B A:List Rat} (h0:A.getD 0 0=1) (lB:B.length<=4) (lA:A.length<=4) (hF:(B.length=4/\B.getD 3 0≠0)\/(A.length=4/\A.getD 3 0≠0)):NS 3 (H4 (B4 B A 3) 3) ↔ ¬ J9 B A:=by
 constructor
 ·rintro jz ⟨y,hB,hA,j0,lj⟩
  have p0:=hA 0;have q0:=hB 0;have p1:=hA 1;have q1:=hB 1;have p2:=hA 2;have q2:=hB 2;rw[IR A y _ lA]at p0 p1 p2;rw[IR B y _ lB]at q0 q1 q2;have p0:0+A.getD 0 0*y 0+A.getD 1 0*y 1+A.getD 2 0*y 2+A.getD 3 0*y 3=0:=p0;have q0:0+B.getD 0 0*y 0+B.getD 1 0*y 1+B.getD 2 0*y 2+B.getD 3 0*y 3=0:=q0;have p1:0+A.getD 0 0*y 1+A.getD 1 0*y 2+A.getD 2 0*y 3+A.getD 3 0*y 4=0:=p1;have q1:0+B.getD 0 0*y 1+B.getD 1 0*y 2+B.getD 2 0*y 3+B.getD 3 0*y 4=0:=q1;have p2:0+A.getD 0 0*y 2+A.getD 1 0*y 3+A.getD 2 0*y 4+A.getD 3 0*y 5=0:=p2;have q2:0+B.getD 0 0*y 2+B.getD 1 0*y 3+B.getD 2 0*y 4+B.getD 3 0*y 5=0:=q2;have hk:ED (H4 (B4 B A 3) 3) [y 3,y 4,y 5]:=by
   rw[OX];intro j hj;obtain rfl|rfl|rfl:j=0\/j=1\/j=2:=by omega
   ·show (B.getD 1 0-B.getD 0 0*A.getD 1 0)*(y 3)+((B.getD 2 0-B.getD 0 0*A.getD 2 0)*(y 4)+((B.getD 3 0-B.getD 0 0*A.getD 3 0)*(y 5)+(0)))=0
    clear jz hB hA lB lA hF lj;generalize A.getD 0 0=a0 at *;generalize B.getD 0 0=b0 at *;generalize A.getD 1 0=a1 at *;generalize B.getD 1 0=b1 at *;generalize A.getD 2 0=a2 at *;generalize B.getD 2 0=b2 at *;generalize A.getD 3 0=a3 at *;generalize B.getD 3 0=b3 at *;generalize y 0=v0 at *;generalize y 1=v1 at *;generalize y 2=v2 at *;generalize y 3=v3 at *;generalize y 4=v4 at *;generalize y 5=v5 at *;grind
   ·show (-(A.getD 1 0)*(B.getD 1 0-B.getD 0 0*A.getD 1 0)+(1*(B.getD 2 0-B.getD 0 0*A.getD 2 0)+(0*(B.getD 3 0-B.getD 0 0*A.getD 3 0)+(0))))*(y 3)+((-(A.getD 2 0)*(B.getD 1 0-B.getD 0 0*A.getD 1 0)+(0*(B.getD 2 0-B.getD 0 0*A.getD 2 0)+(1*(B.getD 3 0-B.getD 0 0*A.getD 3 0)+(0))))*(y 4)+((-(A.getD 3 0)*(B.getD 1 0-B.getD 0 0*A.getD 1 0)+(0*(B.getD 2 0-B.getD 0 0*A.getD 2 0)+(0*(B.getD 3 0-B.getD 0 0*A.getD 3 0)+(0))))*(y 5)+(0)))=0
    clear jz hB hA lB lA hF lj;generalize A.getD 0 0=a0 at *;generalize B.getD 0 0=b0 at *;generalize A.getD 1 0=a1 at *;generalize B.getD 1 0=b1 at *;generalize A.getD 2 0=a2 at *;generalize B.getD 2 0=b2 at *;generalize A.getD 3 0=a3 at *;generalize B.getD 3 0=b3 at *;generalize y 0=v0 at *;generalize y 1=v1 at *;generalize y 2=v2 at *;generalize y 3=v3 at *;generalize y 4=v4 at *;generalize y 5=v5 at *;grind
   ·show (-(A.getD 1 0)*(-(A.getD 1 0)*(B.getD 1 0-B.getD 0 0*A.getD 1 0)+(1*(B.getD 2 0-B.getD 0 0*A.getD 2 0)+(0*(B.getD 3 0-B.getD 0 0*A.getD 3 0)+(0))))+(1*(-(A.getD 2 0)*(B.getD 1 0-B.getD 0 0*A.getD 1 0)+(0*(B.getD 2 0-B.getD 0 0*A.getD 2 0)+(1*(B.getD 3 0-B.getD 0 0*A.getD 3 0)+(0))))+(0*(-(A.getD 3 0)*(B.getD 1 0-B.getD 0 0*A.getD 1 0)+(0*(B.getD 2 0-B.getD 0 0*A.getD 2 0)+(0*(B.getD 3 0-B.getD 0 0*A.getD 3 0)+(0))))+(0))))*(y 3)+((-(A.getD 2 0)*(-(A.getD 1 0)*(B.getD 1 0-B.getD 0 0*A.getD 1 0)+(1*(B.getD 2 0-B.getD 0 0*A.getD 2 0)+(0*(B.getD 3 0-B.getD 0 0*A.getD 3 0)+(0))))+(0*(-(A.getD 2 0)*(B.getD 1 0-B.getD 0 0*A.getD 1 0)+(0*(B.getD 2 0-B.getD 0 0*A.getD 2 0)+(1*(B.getD 3 0-B.getD 0 0*A.getD 3 0)+(0))))+(1*(-(A.getD 3 0)*(B.getD 1 0-B.getD 0 0*A.getD 1 0)+(0*(B.getD 2 0-B.getD 0 0*A.getD 2 0)+(0*(B.getD 3 0-B.getD 0 0*A.getD 3 0)+(0))))+(0))))*(y 4)+((-(A.getD 3 0)*(-(A.getD 1 0)*(B.getD 1 0-B.getD 0 0*A.getD 1 0)+(1*(B.getD 2 0-B.getD 0 0*A.getD 2 0)+(0*(B.getD 3 0-B.getD 0 0*A.getD 3 0)+(0))))+(0*(-(A.getD 2 0)*(B.getD 1 0-B.getD 0 0*A.getD 1 0)+(0*(B.getD 2 0-B.getD 0 0*A.getD 2 0)+(1*(B.getD 3 0-B.getD 0 0*A.getD 3 0)+(0))))+(0*(-(A.getD 3 0)*(B.getD 1 0-B.getD 0 0*A.getD 1 0)+(0*(B.getD 2 0-B.getD 0 0*A.getD 2 0)+(0*(B.getD 3 0-B.getD 0 0*A.getD 3 0)+(0))))+(0))))*(y 5)+(0)))=0
    clear jz hB hA lB lA hF lj;generalize A.getD 0 0=a0 at *;generalize B.getD 0 0=b0 at *;generalize A.getD 1 0=a1 at *;generalize B.getD 1 0=b1 at *;generalize A.getD 2 0=a2 at *;generalize B.getD 2 0=b2 at *;generalize A.getD 3 0=a3 at *;generalize B.getD 3 0=b3 at *;generalize y 0=v0 at *;generalize y 1=v1 at *;generalize y 2=v2 at *;generalize y 3=v3 at *;generalize y 4=v4 at *;generalize y 5=v5 at *;grind
  have z3:y 3=0:=jz _ rfl hk 0;have z4:y 4=0:=jz _ rfl hk 1;have z5:y 5=0:=jz _ rfl hk 2;have z2:y 2=0:=by rw[z3,z4,z5,h0]at p2;grind
  have z1:y 1=0:=by rw[z2,z3,z4,h0]at p1;grind
  have z0:y 0=0:=by rw[z1,z2,z3,h0]at p0;grind
  have hz : ∀ j,j<3->y j=0:=λ j hj=>by
   obtain rfl|rfl|rfl:j=0\/j=1\/j=2:=by omega
   ·exact z0
   ·exact z1
   ·exact z2
  rcases hF with ⟨h1,h2⟩|⟨h1,h2⟩
  ·exact lj (QB h1 h2 hB hz j0)
  ·exact lj (QB h1 h2 hA hz j0)
 ·intro hc X hX hk j
  rw[OX]at hk;refine Classical.byContradiction λ hj=>hc ?_
  match X,hX with
  | [x1,x2,x3],_ =>
   have r0:(B.getD 1 0-B.getD 0 0*A.getD 1 0)*x1+((B.getD 2 0-B.getD 0 0*A.getD 2 0)*x2+((B.getD 3 0-B.getD 0 0*A.getD 3 0)*x3+(0)))=0:=hk 0 (by omega);have r1:(-(A.getD 1 0)*(B.getD 1 0-B.getD 0 0*A.getD 1 0)+(1*(B.getD 2 0-B.getD 0 0*A.getD 2 0)+(0*(B.getD 3 0-B.getD 0 0*A.getD 3 0)+(0))))*x1+((-(A.getD 2 0)*(B.getD 1 0-B.getD 0 0*A.getD 1 0)+(0*(B.getD 2 0-B.getD 0 0*A.getD 2 0)+(1*(B.getD 3 0-B.getD 0 0*A.getD 3 0)+(0))))*x2+((-(A.getD 3 0)*(B.getD 1 0-B.getD 0 0*A.getD 1 0)+(0*(B.getD 2 0-B.getD 0 0*A.getD 2 0)+(0*(B.getD 3 0-B.getD 0 0*A.getD 3 0)+(0))))*x3+(0)))=0:=hk 1 (by omega);have r2:(-(A.getD 1 0)*(-(A.getD 1 0)*(B.getD 1 0-B.getD 0 0*A.getD 1 0)+(1*(B.getD 2 0-B.getD 0 0*A.getD 2 0)+(0*(B.getD 3 0-B.getD 0 0*A.getD 3 0)+(0))))+(1*(-(A.getD 2 0)*(B.getD 1 0-B.getD 0 0*A.getD 1 0)+(0*(B.getD 2 0-B.getD 0 0*A.getD 2 0)+(1*(B.getD 3 0-B.getD 0 0*A.getD 3 0)+(0))))+(0*(-(A.getD 3 0)*(B.getD 1 0-B.getD 0 0*A.getD 1 0)+(0*(B.getD 2 0-B.getD 0 0*A.getD 2 0)+(0*(B.getD 3 0-B.getD 0 0*A.getD 3 0)+(0))))+(0))))*x1+((-(A.getD 2 0)*(-(A.getD 1 0)*(B.getD 1 0-B.getD 0 0*A.getD 1 0)+(1*(B.getD 2 0-B.getD 0 0*A.getD 2 0)+(0*(B.getD 3 0-B.getD 0 0*A.getD 3 0)+(0))))+(0*(-(A.getD 2 0)*(B.getD 1 0-B.getD 0 0*A.getD 1 0)+(0*(B.getD 2 0-B.getD 0 0*A.getD 2 0)+(1*(B.getD 3 0-B.getD 0 0*A.getD 3 0)+(0))))+(1*(-(A.getD 3 0)*(B.getD 1 0-B.getD 0 0*A.getD 1 0)+(0*(B.getD 2 0-B.getD 0 0*A.getD 2 0)+(0*(B.getD 3 0-B.getD 0 0*A.getD 3 0)+(0))))+(0))))*x2+((-(A.getD 3 0)*(-(A.getD 1 0)*(B.getD 1 0-B.getD 0 0*A.getD 1 0)+(1*(B.getD 2 0-B.getD 0 0*A.getD 2 0)+(0*(B.getD 3 0-B.getD 0 0*A.getD 3 0)+(0))))+(0*(-(A.getD 2 0)*(B.getD 1 0-B.getD 0 0*A.getD 1 0)+(0*(B.getD 2 0-B.getD 0 0*A.getD 2 0)+(1*(B.getD 3 0-B.getD 0 0*A.getD 3 0)+(0))))+(0*(-(A.getD 3 0)*(B.getD 1 0-B.getD 0 0*A.getD 1 0)+(0*(B.getD 2 0-B.getD 0 0*A.getD 2 0)+(0*(B.getD 3 0-B.getD 0 0*A.getD 3 0)+(0))))+(0))))*x3+(0)))=0:=hk 2 (by omega);obtain ⟨y2,e2⟩ : ∃ y,y = -(A.getD 1 0*x1+A.getD 2 0*x2+A.getD 3 0*x3):=⟨_,rfl⟩;obtain ⟨y1,e1⟩ : ∃ y,y = -(A.getD 1 0*y2+A.getD 2 0*x1+A.getD 3 0*x2):=⟨_,rfl⟩;obtain ⟨y0,e0⟩ : ∃ y,y = -(A.getD 1 0*y1+A.getD 2 0*y2+A.getD 3 0*x1):=⟨_,rfl⟩;have hA : ∀ k,k<3->BS (λ i=>A.getD i 0*[y0,y1,y2,x1,x2,x3].getD (k+i) 0) (3+1)=0:=by
    intro k jd;obtain rfl|rfl|rfl:k=0\/k=1\/k=2:=by omega
    ·show 0+A.getD 0 0*y0+A.getD 1 0*y1+A.getD 2 0*y2+A.getD 3 0*x1=0
     clear hF hc hk hj lA lB;generalize A.getD 0 0=a0 at *;generalize B.getD 0 0=b0 at *;generalize A.getD 1 0=a1 at *;generalize B.getD 1 0=b1 at *;generalize A.getD 2 0=a2 at *;generalize B.getD 2 0=b2 at *;generalize A.getD 3 0=a3 at *;generalize B.getD 3 0=b3 at *;grind
    ·show 0+A.getD 0 0*y1+A.getD 1 0*y2+A.getD 2 0*x1+A.getD 3 0*x2=0
     clear hF hc hk hj lA lB;generalize A.getD 0 0=a0 at *;generalize B.getD 0 0=b0 at *;generalize A.getD 1 0=a1 at *;generalize B.getD 1 0=b1 at *;generalize A.getD 2 0=a2 at *;generalize B.getD 2 0=b2 at *;generalize A.getD 3 0=a3 at *;generalize B.getD 3 0=b3 at *;grind
    ·show 0+A.getD 0 0*y2+A.getD 1 0*x1+A.getD 2 0*x2+A.getD 3 0*x3=0
     clear hF hc hk hj lA lB;generalize A.getD 0 0=a0 at *;generalize B.getD 0 0=b0 at *;generalize A.getD 1 0=a1 at *;generalize B.getD 1 0=b1 at *;generalize A.getD 2 0=a2 at *;generalize B.getD 2 0=b2 at *;generalize A.getD 3 0=a3 at *;generalize B.getD 3 0=b3 at *;grind
   have hB : ∀ k,k<3->BS (λ i=>B.getD i 0*[y0,y1,y2,x1,x2,x3].getD (k+i) 0) (3+1)=0:=by
    intro k jd;obtain rfl|rfl|rfl:k=0\/k=1\/k=2:=by omega
    ·show 0+B.getD 0 0*y0+B.getD 1 0*y1+B.getD 2 0*y2+B.getD 3 0*x1=0
     clear hF hc hk hj lA lB;generalize A.getD 0 0=a0 at *;generalize B.getD 0 0=b0 at *;generalize A.getD 1 0=a1 at *;generalize B.getD 1 0=b1 at *;generalize A.getD 2 0=a2 at *;generalize B.getD 2 0=b2 at *;generalize A.getD 3 0=a3 at *;generalize B.getD 3 0=b3 at *;grind
    ·show 0+B.getD 0 0*y1+B.getD 1 0*y2+B.getD 2 0*x1+B.getD 3 0*x2=0
     clear hF hc hk hj lA lB;generalize A.getD 0 0=a0 at *;generalize B.getD 0 0=b0 at *;generalize A.getD 1 0=a1 at *;generalize B.getD 1 0=b1 at *;generalize A.getD 2 0=a2 at *;generalize B.getD 2 0=b2 at *;generalize A.getD 3 0=a3 at *;generalize B.getD 3 0=b3 at *;grind
    ·show 0+B.getD 0 0*y2+B.getD 1 0*x1+B.getD 2 0*x2+B.getD 3 0*x3=0
     clear hF hc hk hj lA lB;generalize A.getD 0 0=a0 at *;generalize B.getD 0 0=b0 at *;generalize A.getD 1 0=a1 at *;generalize B.getD 1 0=b1 at *;generalize A.getD 2 0=a2 at *;generalize B.getD 2 0=b2 at *;generalize A.getD 3 0=a3 at *;generalize B.getD 3 0=b3 at *;grind
   have m8 : ∃ j,j<2*3/\[y0,y1,y2,x1,x2,x3].getD j 0≠0:=by
    by_cases Kd:j<3
    ·exact ⟨3+j,by omega,by
      obtain rfl|rfl|rfl:j=0\/j=1\/j=2:=by omega
      ·exact hj
      ·exact hj
      ·exact hj⟩
    ·exact absurd (JV (by simp only[List.length_cons,List.length_nil];omega)) hj
   rcases hF with ⟨h1,h2⟩|⟨h1,h2⟩
   ·obtain ⟨y,g1,g2,g3⟩:=V8 h1 h2 lA [y0,y1,y2,x1,x2,x3] rfl hB hA m8
    exact ⟨y,g1,g2,g3⟩
   ·obtain ⟨y,g1,g2,g3⟩:=V8 h1 h2 lB [y0,y1,y2,x1,x2,x3] rfl hA hB m8
    exact ⟨y,g2,g1,g3⟩
theorem Wz {B A:List Rat} {n:Nat} (tB:BW B=B) (tA:BW A=A) (h0:A.getD 0 0=1) (hn:max (B.length-1) (A.length-1)=n) (h1:1<=n) (h3:n<=3):NS n (J4 (B4 B A n) n)/\(NS n (H4 (B4 B A n) n) ↔ ¬ J9 B A):=by
 have hF:(B.length=n+1/\B.getD n 0≠0)\/(A.length=n+1/\A.getD n 0≠0):=by
  by_cases h:B.length=n+1
  ·have:=RC tB (by omega)
   rw[h,Nat.add_sub_cancel]at this;exact Or.inl ⟨h,this⟩
  ·have h2:A.length=n+1:=by omega
   have:=RC tA (by omega)
   rw[h2,Nat.add_sub_cancel]at this;exact Or.inr ⟨h2,this⟩
 obtain rfl|rfl|rfl:n=1\/n=2\/n=3:=by omega
 ·exact ⟨Ahk B A,AhN h0 (by omega) (by omega) hF⟩
 ·exact ⟨Ahl B A,AhO h0 (by omega) (by omega) hF⟩
 ·exact ⟨Ahm B A,AhP h0 (by omega) (by omega) hF⟩
theorem Mj {X:List Rat} {n:Nat} (hl:X.length=n) (h : ∀ j,X.getD j 0=0):X=List.replicate n 0:=by
 refine List.ext_getElem? λ i => ?_
 by_cases hi:i<n
 ·have:=h i
  rw[List.getD_eq_getElem?_getD,zE (by omega)]at this;rw[zE (by omega),List.getElem?_replicate,if_pos hi];exact congrArg some this
 ·rw[List.getElem?_eq_none (by omega),List.getElem?_eq_none (by simp;omega)]
theorem Agv (m:List (List Rat)) (n:Nat) : ∀ j,(A6 m (List.replicate n 0)).getD j 0=0:=λ j=>by
 rw[List.getD_eq_getElem?_getD,A6,List.getElem?_map];cases m[j]? with
 | none=>rfl
 | some r=>exact S5 r n
theorem WF {U:List (List Rat)} {n:Nat} (hU:Sq n U) (c v:List Rat):A2 (A6 (EP U) c) v=A2 c (A6 U v):=by rw[Aiz hU,gJ U c hU.r]
theorem Zs {T:List (List Rat)} {n:Nat} (hT:Sq n T) (c v:List Rat):A2 (A6 T c) v=A2 c (A6 (EP T) v):=by rw[F4,<-WF hT,F4]
theorem lF {T U:List (List Rat)} {S:DQ} {n k:Nat} (hS:S.Ok n k) (hT:Sq n T) (hU:Sq n U) (ef : ∀ v:List Rat,v.length=n->A6 U (A6 T v)=v) : ∀ (j:Nat) (v:List Rat),v.length=n->A2 (oQ (GA T U S n) j) v=A2 (oQ S j) (A6 U v)
 | 0,v,_=>WF hU S.c v
 | j+1,v,hv=>by
  have hA:Sq n S.a:=⟨hS.la,hS.lr⟩;have Ah:Sq n (GA T U S n).a:=Sq.mul (Sq.mul hT.l S.a).l U;rw[oQ,oQ,WF Ah,WF hA,lF hS hT hU ef j _ (by rw[GX];exact Ah.l)];have e:A6 (GA T U S n).a v=A6 T (A6 S.a (A6 U v)):=by
   show A6 (EJ (EJ T S.a n) U n) v=_;rw[cF _ _ _ hU.r,cF _ _ _ hS.lr]
  rw[e,ef _ (by rw[GX];exact hS.la)]
theorem AiA {X:List Rat} {n j:Nat} (hX:X.length=n) (hj:j<n):A2 X (DE n j)=X.getD j 0:=by
 rw[gK X _ n (by omega),lW (k:=j) n hj λ i hi ug => ?_]
 ·rw[zN,if_pos hj,if_pos rfl,Rat.mul_one]
 ·rw[zN]
  split<;>first|rw[Rat.mul_zero]|rw[if_neg (by omega),Rat.mul_zero]
theorem Ah3 {T U:List (List Rat)} {S:DQ} {n k:Nat} (hS:S.Ok n k) (hT:Sq n T) (hU:Sq n U) (ef : ∀ v:List Rat,v.length=n->A6 U (A6 T v)=v) (Cg : ∀ v:List Rat,v.length=n->A6 T (A6 U v)=v):(NS n (J4 (GA T U S n) n)↔NS n (J4 S n))/\(NS n (H4 (GA T U S n) n)↔NS n (H4 S n)):=by
 have hz : ∀ {X:List Rat} {M M':List (List Rat)},X.length=n->Sq n M->(∀ j,(A6 M X).getD j 0=0)->A6 M' (A6 M X)=X -> ∀ j,X.getD j 0=0:=λ{X M M'} hX hM h0 e j=>by
  rw[<-e,Mj (by rw[GX,hM.l]) h0];exact Agv _ _ j
 have qw : ∀ {X:List Rat} {M M':List (List Rat)},X.length=n->Sq n M->Sq n M'->(∀ v:List Rat,v.length=n->A6 M (A6 M' v)=v)->(∀ j,(A6 (EP M) X).getD j 0=0) -> ∀ j,X.getD j 0=0:=λ{X M M'} hX hM hM' hMM h0 j=>by
  by_cases hj:j<n
  ·have h1:A2 (A6 (EP M) X) (A6 M' (DE n j))=0:=by
    rw[Mj (n:=n) (by rw[GX,XJ,hM.l]) h0,F4];exact S5 _ _
   rw[WF hM,hMM _ (by rw[O9]),AiA hX hj]at h1;exact h1
  ·exact JV (by omega)
 refine ⟨⟨λ h X hX hk => ?_,λ h X hX hk => ?_⟩,⟨λ h X hX hk => ?_,λ h X hX hk => ?_⟩⟩
 ·rw[VB]at hk
  refine qw hX hU hT ef (h (A6 (EP U) X) (by rw[GX,XJ,hU.l]) (VB.2 λ j hj => ?_));obtain ⟨h1,h2⟩:=lG hS hU ef j;rw[h2,F4,WF hU,ef _ h1,F4];exact hk j hj
 ·rw[VB]at hk
  refine qw hX hT hU Cg (h (A6 (EP T) X) (by rw[GX,XJ,hT.l]) (VB.2 λ j hj => ?_));obtain ⟨h1,h2⟩:=lG hS hU ef j;rw[<-Zs hT,<-h2];exact hk j hj
 ·rw[OX]at hk
  refine hz (M':=U) hX hT (h (A6 T X) (by rw[GX,hT.l]) (OX.2 λ j hj => ?_)) (ef X hX);rw[lF hS hT hU ef j _ (by rw[GX,hT.l]),ef X hX];exact hk j hj
 ·rw[OX]at hk
  refine hz (M':=T) hX hU (h (A6 U X) (by rw[GX,hU.l]) (OX.2 λ j hj => ?_)) (Cg X hX);rw[<-lF hS hT hU ef j X hX];exact hk j hj
end Go.e8

namespace Go.e8
open Go.ChangeShapes Go.WideShapes Go.ChangeAt Go.RowKit
inductive Ty where
 | int (k:IntKind)
 | bool
 | sl (e:Ty)
 | nil
 | cons (a r:Ty)
def Ty.cells:Ty->Nat
 | .int _=>1 | .bool=>1 | .sl _=>1
 | .nil=>0
 | .cons a r=>a.cells+r.cells
def GP:Ty->List AV->Prop
 | .int k,cs => ∃ n,cs=[.int k n]/\(Lit.int k n).wf=true
 | .bool,cs => ∃ b,cs=[.bool b]
 | .sl e,cs => ∃ es,cs=[.sl true es]/\es.length<=maxLen /\ ∀ x∈es,GP e x
 | .nil,cs=>cs=[]
 | .cons a r,cs => ∃ x y,cs=x++y/\GP a x/\GP r y
theorem GP.len : ∀ {ty:Ty} {cs:List AV},GP ty cs->cs.length=ty.cells
 | .int _,cs,h=>by obtain ⟨n,rfl,_⟩:=h;rfl
 | .bool,cs,h=>by obtain ⟨n,rfl⟩:=h;rfl
 | .sl _,cs,h=>by obtain ⟨n,rfl,_⟩:=h;rfl
 | .nil,cs,h=>by rw[show cs=[] from h];rfl
 | .cons a r,cs,h=>by obtain ⟨x,y,rfl,h1,h2⟩:=h;simp [Ty.cells,GP.len h1,GP.len h2]
def LO (P:Program):Nat->TypeId->Ty->Bool
 | 0,_,_=>false
 | n+1,t,ty=>match P.underlying t,ty with
  | some (.int k),.int k'=>decide (k=k')
  | some .bool,.bool=>true
  | some (.slice e),.sl mf=>LO P n e mf&&(P.cellsOf e == mf.cells&&decide (0<mf.cells))
  | some (.struct fs),ty=>go (LO P n) fs.toList 0 ty&&P.cellsOf t == ty.cells
  | _,_=>false
where
 go (ok:TypeId->Ty->Bool):List Field->Nat->Ty->Bool
  | [],_,.nil=>true
  | f::fs,off,.cons a r=>(f.offset == off&&(ok f.type a&&P.cellsOf f.type == a.cells))&&go ok fs (off+a.cells) r
  | _,_,_=>false
section
variable {H:Type} {enc:TypeId × Value->H} {P:Program} {w:World} {base:Nat} {spare:Nat->Bool} {held:Bool} {R:Bool->Nat->Prop}
def G6 (w:World) (R:Bool->Nat->Prop) (as:List AV) (cs:List Value):Prop:=as.length=cs.length /\ ∀ (j:Nat) (a:AV) (c:Value),as[j]? = some a->cs[j]? = some c->Rd w R a c
theorem G6.one {a:AV} {c:Value} (h:Rd w R a c):G6 w R [a] [c]:=by
 refine ⟨rfl,λ j a' c' h1 h2 => ?_⟩;cases j with
 | zero=>simp at h1 h2;subst h1 h2;exact h
 | succ j=>simp at h1
theorem G6.append {as bs:List AV} {cs ds:List Value} (h1:G6 w R as cs) (h2:G6 w R bs ds):G6 w R (as++bs) (cs++ds):=by
 refine ⟨by simp [h1.1,h2.1],λ j a c ha hc => ?_⟩;by_cases hj:j<as.length
 ·rw[List.getElem?_append_left hj]at ha
  rw[List.getElem?_append_left (by rw[<-h1.1];exact hj)]at hc;exact h1.2 j a c ha hc
 ·rw[List.getElem?_append_right (by omega)]at ha
  rw[List.getElem?_append_right (by rw[<-h1.1];omega),<-h1.1]at hc;exact h2.2 _ a c ha hc
theorem nT (a:Addr) (i:Nat) (h:a.spot=none):a.add i=⟨a.block,a.off+i,none⟩:=by
 obtain ⟨b,o,s⟩:=a;simp only at h;subst h;exact GQ b o i
theorem wC (hR : ∀ b,b<w.heap.size->R true b) (m:Nat) (ih : ∀ (ty:Ty) (t:TypeId) (cs:List Value) (fuel:Nat) (x:DataW H × List MemPlace),LO P m t ty=true->DataW.trod enc P w base spare held fuel t cs=some x -> ∃ as,GP ty as/\G6 w R as cs)
  (n:Nat) (cs:List Value) : ∀ (fs:List Field) (off:Nat) (ty:Ty),LO.go P (LO P m) fs off ty=true->(∀ f∈fs,∃ y,DataW.trod enc P w base spare held n f.type ((cs.drop f.offset).take (P.cellsOf f.type))=some y)->off+ty.cells=cs.length -> ∃ as,GP ty as/\G6 w R as (cs.drop off)
 | [],off,ty,m4,_,hl=>by
  cases ty<;>simp only[LO.go,Bool.false_eq_true]at m4;simp only[Ty.cells]at hl;exact ⟨[],rfl,by rw[List.drop_of_length_le (by omega)];exact ⟨rfl,λ j a c h=>by simp at h⟩⟩
 | f::fs,off,ty,m4,hf,hl=>by
  cases ty<;>simp only[LO.go,Bool.false_eq_true,Bool.and_eq_true,beq_iff_eq]at m4;rename_i a r;obtain ⟨⟨h1,h2,h3⟩,h4⟩:=m4;simp only[Ty.cells]at hl;obtain ⟨y,hy⟩:=hf f List.mem_cons_self;rw[h1,h3]at hy;obtain ⟨Mn,g1,g2⟩:=ih a f.type _ n y h2 hy;obtain ⟨Mo,g3,g4⟩:=wC hR m ih n cs fs (off+a.cells) r h4 (λ f' h'=>hf f' (List.mem_cons_of_mem _ h')) (by omega);refine ⟨Mn++Mo,⟨Mn,Mo,rfl,g1,g3⟩,?_⟩;have:=g2.append g4
  rwa [show (cs.drop off).take a.cells++cs.drop (off+a.cells)=cs.drop off by rw[<-List.drop_drop,List.take_append_drop]]at this
theorem wB (hR : ∀ b,b<w.heap.size->R true b) : ∀ (m:Nat) (ty:Ty) (t:TypeId) (cs:List Value) (fuel:Nat) (x:DataW H × List MemPlace),LO P m t ty=true->DataW.trod enc P w base spare held fuel t cs=some x -> ∃ as,GP ty as/\G6 w R as cs
 | 0,_,_,_,_,_,h,_=>by simp [LO]at h
 | m+1,ty,t,cs,fuel,x,m4,h=>by
  have ih:=wB hR m;simp only[LO]at m4;split at m4
  ·rename_i k k' hu
   obtain rfl:k=k':=by simpa using m4
   obtain ⟨n,rfl,_,hw⟩:=DataW.trod_int hu h;exact ⟨[.int k n],⟨n,rfl,hw⟩,G6.one (.int k n)⟩
  ·rename_i hu
   cases fuel with
   | zero=>simp [DataW.trod]at h
   | succ fuel =>
    unfold DataW.trod at h;rw[hu]at h;split at h<;>simp_all
    exact ⟨_,⟨_,rfl⟩,G6.one (.bool _)⟩
  ·rename_i e mf hu
   simp only[Bool.and_eq_true,beq_iff_eq,decide_eq_true_eq]at m4;obtain ⟨h1,h2,h3⟩:=m4;rcases DataW.trod_slice hu h with ⟨rfl,_⟩|⟨a,len,cap,elems,rest,n,_,rfl,_,hb,hl,hm,hlen,ff,_,_⟩
   ·exact ⟨[.sl true []],⟨[],rfl,by simp,by simp⟩,G6.one (.jl true none 0)⟩
   ·have each : ∀ i,i<len -> ∃ as ew,GP mf as/\G6 w R as ew/\ew.length=mf.cells /\ ∀ j,j<mf.cells->w.cell? ((a.add (i*mf.cells)).add j)=ew[j]? := by
     intro i hi;have:=ff i hi
     rw[h2,zE (by omega),Option.bind_eq_some_iff]at this;obtain ⟨ew,hc,ht⟩:=this;obtain ⟨as,g1,g2⟩:=ih mf e ew n _ h1 ht;obtain ⟨_,q1,q2⟩:=World.cells?_some hc;exact ⟨as,ew,g1,g2,q1,q2⟩
    by_cases h0:len=0
    ·subst h0
     exact ⟨[.sl true []],⟨[],rfl,by simp,by simp⟩,G6.one (.jl true (some a) cap)⟩
    ·have zs:a.spot=none:=by
      obtain ⟨as,ew,_,_,q1,q2⟩:=each 0 (by omega);have:=q2 0 h3
      rw[zE (by omega)]at this;simpa [Addr.add] using World.cell?_spot this
     have nb:a.block<w.heap.size:=by
      obtain ⟨as,ew,_,_,q1,q2⟩:=each 0 (by omega);have:=q2 0 h3
      rw[zE (by omega)]at this;simpa [Addr.add] using SK this
     have pick : ∃ f:Nat->List AV × List Value,∀ i,i<len->GP mf (f i).1/\G6 w R (f i).1 (f i).2/\(f i).2.length=mf.cells /\ ∀ j,j<mf.cells->w.cell? ((a.add (i*mf.cells)).add j)=(f i).2[j]? := by
      refine ⟨λ i=>if hi:i<len then (Classical.choose (each i hi),Classical.choose (Classical.choose_spec (each i hi))) else ([],[]),λ i hi => ?_⟩;simp only[hi,dif_pos];exact Classical.choose_spec (Classical.choose_spec (each i hi))
     obtain ⟨f,hf⟩:=pick;have o7 : ∀ i e',((List.range len).map λ i=>(f i).1)[i]? = some e'->i<len/\e'=(f i).1:=by
      intro i e' he;rw[List.getElem?_map]at he;by_cases hi:i<len
      ·rw[List.getElem?_range hi]at he
       simp at he;exact ⟨hi,he.symm⟩
      ·rw[List.getElem?_eq_none (by simpa using hi)]at he
       cases he
     refine ⟨[.sl true ((List.range len).map λ i=>(f i).1)],⟨_,rfl,by simp;omega,λ x hx => ?_⟩,G6.one ?_⟩
     ·obtain ⟨i,hi,rfl⟩:=List.mem_map.1 hx
      exact (hf i (List.mem_range.1 hi)).1
     ·obtain ⟨ab,ao,as⟩:=a
      simp only at zs;subst zs;have zj:((List.range len).map λ i=>(f i).1).length=len:=by simp
      have:=Rd.sl (w:=w) (R:=R) true ((List.range len).map λ i=>(f i).1) ab ao mf.cells cap (λ i j=>((f i).2[j]?).getD default) (by intro e;have:=congrArg List.length e;simp at this;omega) h3 (hR ab nb) (by rw[zj];exact hl)
       (λ e' he=>by
        obtain ⟨i,hi,rfl⟩:=List.mem_map.1 he;exact (hf i (List.mem_range.1 hi)).1.len)
       (λ i e' he j c hc=>by
        obtain ⟨hi,rfl⟩:=o7 i e' he;obtain ⟨g1,g2,g3,g4⟩:=hf i hi;have hj:j<mf.cells:=by
         have:=(zS hc).1
         rwa [g1.len]at this
        have h5:=g4 j hj;rw[nT ⟨ab,ao,none⟩ (i*mf.cells) rfl,nT _ _ rfl]at h5;simp only at h5;rw[show ao+(i*mf.cells+j)=ao+i*mf.cells+j by omega,h5,zE (by omega)];rfl)
       (λ i e' he j c hc=>by
        obtain ⟨hi,rfl⟩:=o7 i e' he;obtain ⟨g1,g2,g3,g4⟩:=hf i hi;have hj:j<mf.cells:=by
         have:=(zS hc).1
         rwa [g1.len]at this
        have h6:(f i).2[j]? = some ((f i).2[j]'(by omega)):=zE _;rw[h6];exact g2.2 j c _ hc h6)
      rwa [zj]at this
  ·rename_i fs hu
   simp only[Bool.and_eq_true,beq_iff_eq]at m4;obtain ⟨h1,h2⟩:=m4;obtain ⟨xs,n,_,_,hl,hlen,hf⟩:=DataW.trod_struct hu h;have:=wC hR m ih n cs fs.toList 0 _ h1 (λ f nf=>by
    obtain ⟨i,hi,rfl⟩:=List.getElem_of_mem nf;have h5:=hf i fs.toList[i] (by simp);rw[h5,zE (by simpa [hlen] using hi)];exact ⟨_,rfl⟩) (by rw[hl,h2];omega)
   simpa using this
  ·exact absurd m4 (by simp)
theorem kI {S:Nat->Prop} {ty:Ty} {t:TypeId} {v:Value} {d:DataW H} {ps:List MemPlace} {m:Nat} (m4:LO P m t ty=true) (hv:v.cells.toList=[v]) (h:DataW.Trod enc P w base spare held t v d ps) :
  ∃ a,GP ty [a]/\CA w.heap.size S ⟨λ_ _=>none,AH.emp,w⟩ a v:=by
 obtain ⟨fuel,hf⟩:=h;rw[hv]at hf;obtain ⟨as,h1,h2⟩:=wB (R:=safe w.heap.size S ⟨λ_ _=>none,AH.emp,w⟩) (λ b hb=>Or.inr (Or.inr ⟨rfl,hb⟩)) m ty t [v] fuel _ m4 hf;obtain ⟨a,rfl⟩ : ∃ a,as=[a]:=by
  have:=h2.1
  match as,this with
  | [a],_=>exact ⟨a,rfl⟩
 exact ⟨a,h1,.one (.rd (h2.2 0 a v rfl rfl))⟩
end
theorem Tu {B:Nat} {S:Nat->Prop} {m:M} : ∀ (j:Nat) (c:AV) (v:Value),([]:List AV)[j]? = some c->([]:List Value)[j]? = some v->CA B S m c v:=λ j c v h=>by simp at h
theorem eT {B:Nat} {S:Nat->Prop} {m:M} {a:AV} {u:Value} {as:List AV} {us:List Value} (h:CA B S m a u) (hr : ∀ (j:Nat) (c:AV) (v:Value),as[j]? = some c->us[j]? = some v->CA B S m c v) :
  ∀ (j:Nat) (c:AV) (v:Value),(a::as)[j]? = some c->(u::us)[j]? = some v->CA B S m c v
 | 0,c,v,h1,h2=>by simp at h1 h2;subst h1 h2;exact h
 | j+1,c,v,h1,h2=>hr j c v (by simpa using h1) (by simpa using h2)
theorem Af0 {P:Program} {num:Nat->Nat} {L:Lib} (hP:ProgOK P num L) {f:Nat} {vs:List AV} (h:Ev L f vs (.bool true)) {S:Nat->Prop} {w:World} {us:List Value} (hl:vs.length=us.length)
  (ha : ∀ (j:Nat) (c:AV) (v:Value),vs[j]? = some c->us[j]? = some v->CA w.heap.size S ⟨λ_ _=>none,AH.emp,w⟩ c v) :
  Calls P (num f) us.toArray w λ e w'=>e = .returned (.bool true)/\Below w.heap.size w w':=by
 obtain ⟨n,hn⟩:=h;refine ((Sp hP n).pure f vs _ hn S w us hl ha).mono ?_;rintro e w' ⟨u,rfl,hb,w5,_⟩
 refine ⟨?_,hb⟩;cases w5 with
 | ca oz=>cases oz with
  | one w4=>cases w4 with
   | rd mo=>cases mo;rfl
end Go.e8

namespace Go.e8
abbrev tI:Ty := .int .i64
theorem uU {α:Type} {enc:α->List AV} {p:α->Prop} : ∀ {es:List (List AV)},(∀ x∈es,∃ y,x=enc y/\p y) -> ∃ l:List α,es=l.map enc /\ ∀ y∈l,p y
 | [],_=>⟨[],rfl,by simp⟩
 | e::es,h=>by
  obtain ⟨y,rfl,hy⟩:=h e List.mem_cons_self;obtain ⟨l,rfl,hl⟩:=uU (enc:=enc) (p:=p) λ x hx=>h x (List.mem_cons_of_mem _ hx)
  exact ⟨y::l,rfl,by simpa using ⟨hy,hl⟩⟩
theorem Afi {α:Type} {enc:α->List AV} {p:α->Prop} {e:Ty} {cs:List AV} (he : ∀ x,GP e x -> ∃ y,x=enc y/\p y) (h:GP (.sl e) cs) : ∃ l:List α,cs=[.sl true (l.map enc)]/\l.length<9223372036854775808 /\ ∀ y∈l,p y:=by
 obtain ⟨es,rfl,hl,hx⟩:=h;obtain ⟨l,rfl,hp⟩:=uU (enc:=enc) (p:=p) λ x hm=>he x (hx x hm)
 refine ⟨l,rfl,?_,hp⟩;have:maxLen=9223372036854775807:=rfl
 simp at hl;omega
theorem AiF {n:Int} (h:(Lit.int .i64 n).wf=true):G4 n:=by
 simp only[Lit.wf,Bool.and_eq_true,decide_eq_true_eq]at h;have h1:IntKind.i64.min = -9223372036854775808:=rfl;have h2:IntKind.i64.max=9223372036854775807:=rfl;rw[h1,h2]at h;unfold G4;constructor<;>omega
theorem Afh {cs:List AV} (h:GP tI cs) : ∃ n,cs=ON n/\G4 n:=by obtain ⟨n,rfl,hw⟩:=h;exact ⟨n,rfl,AiF hw⟩
theorem jB {cs:List AV} (h:GP (.sl tI) cs) : ∃ l:List Int,cs=[.sl true (l.map ON)]/\l.length<9223372036854775808 /\ ∀ v∈l,G4 v:=Afi (λ_=>Afh) h
end Go.e8

namespace Go.e8
open F
attribute [local irreducible] AA AF AM AE C8 AX BF BD B9 B2 CX E9 B0 A5 B5 CQ AB A7 AJ pw BR BO C4 D0 DZ DU DN BZ DW
variable {L:Lib}
set_option maxHeartbeats 8000000
abbrev eM (m:List (List Rat)):List (List AV):=m.map λ r=>[AV.sl false (r.map eQ)]
theorem oR (m:List (List Rat)):FL (eM m):=X9 (λ r=>by simp only[CD,A1,and_true,true_and];exact GF r) m
theorem fK (m:List (List Rat)):A1 (.sl false (eM m)):=by
 simp only[A1,true_and];exact oR m
end Go.e8

namespace Go.e8
variable {L:Lib}
theorem Rx {kk:List It} {tm:Tm} {M:Mem} {Q:Tm->Mem->Prop} {k s:Nat} {rows:List (Option (Nat × List (List AV)))} {w:List Nat} (s9:List (Option (Nat × List (List AV)))) (e:c8 M k=some (s,.vw w rows)) (hl:s9.length=w.length)
  (hw : ∀ (i t:Nat),w[i]? = some t -> ∃ r,rows[t]? = some r/\s9[i]? = some r) (hi : ∀ (i i' t:Nat),w[i]? = some t->w[i']? = some t->i=i') (cg:IU k tm=false) (nc:HL k M=false)
  (h:AA L kk tm ((k,s,.mx s9)::M) Q):AA L kk tm M Q:=by
 intro σ st hr;obtain ⟨σ',ml⟩:=hr.Bv e hl hw hi cg nc;exact h σ' st ml
theorem mQ {kk:List It} {tm:Tm} {M:Mem} {Q:Tm->Mem->Prop} {k s i j:Nat} {rows:List (Option (Nat × List (List AV)))} {a b:Option (Nat × List (List AV))} (e:c8 M k=some (s,.vw (((List.range rows.length).set i j).set j i) rows)) (ha:rows[i]? = some a) (hb:rows[j]? = some b) (cg:IU k tm=false) (nc:HL k M=false)
  (h:AA L kk tm ((k,s,.mx ((rows.set i b).set j a))::M) Q):AA L kk tm M Q:=by
 have hi:=(zS ha).1;have hj:=(zS hb).1;have Lv : ∀ p,p<rows.length->(((List.range rows.length).set i j).set j i)[p]? = some (if p=j then i else if p=i then j else p):=λ p hp=>by
  rw[List.getElem?_set,List.getElem?_set,List.length_set,List.length_range];by_cases h1:j=p
  ·subst h1;simp [hp]
  ·rw[if_neg h1,if_neg (Ne.symm h1)]
   by_cases h2:i=p
   ·subst h2;simp [hp]
   ·rw[if_neg h2,if_neg (Ne.symm h2),List.getElem?_range hp]
 have Bm : ∀ p t,(((List.range rows.length).set i j).set j i)[p]? = some t->p<rows.length:=λ p t hp=>by
  have:=(zS hp).1
  simpa using this
 refine Rx ((rows.set i b).set j a) e (by simp) (λ p t hp => ?_) (λ p p' t hp Kr => ?_) cg nc h
 ·have qu:=Bm p t hp
  rw[Lv p qu]at hp;obtain rfl:=Option.some.inj hp;rw[List.getElem?_set,List.getElem?_set,List.length_set];by_cases h1:p=j
  ·subst h1
   exact ⟨a,by rw[if_pos rfl];exact ha,by rw[if_pos rfl,if_pos qu]⟩
  ·rw[if_neg h1,if_neg (Ne.symm h1)]
   by_cases h2:p=i
   ·subst h2
    exact ⟨b,by rw[if_pos rfl];exact hb,by rw[if_pos rfl,if_pos qu]⟩
   ·rw[if_neg h2,if_neg (Ne.symm h2)]
    exact ⟨_,zE qu,zE qu⟩
 ·have qu:=Bm p t hp
  have Kt:=Bm p' t Kr;rw[Lv p qu]at hp;rw[Lv p' Kt]at Kr;have:=Option.some.inj (hp.trans Kr.symm)
  split at this<;>split at this<;>(try split at this)<;>(try split at this)<;>omega
def J0:A9->Bool
 | .ret=>false
 | .dr c _ _=>J0 c
 | .scope c=>J0 c
 | .seq a b=>J0 a&&J0 b
 | .cond _ a b=>J0 a&&J0 b
 | .block _ c=>J0 c
 | .loop c=>J0 c
 | _=>true
def J1:It->Bool
 | .code c=>J0 c
 | .lp c=>J0 c
 | _=>true
theorem YP {id:Nat} {kk:List It} : ∀ {l l':List It},DC id l=some l'->DC id (l++kk)=some (l'++kk)
 | [],_,h=>by cases h
 | .e7 i::l,l',h=>by
  simp only[List.cons_append,DC]at h ⊢;split at h
  ·rename_i e;rw[if_pos e];cases h;rfl
  ·rename_i e;rw[if_neg e];exact YP h
 | .code c::l,l',h=>by
  simp only[List.cons_append,DC]at h ⊢;exact YP h
 | .kf a b::l,l',h=>by
  simp only[List.cons_append,DC]at h ⊢;exact YP h
 | .lp c::l,l',h=>by
  simp only[List.cons_append,DC]at h ⊢;exact YP h
theorem YO {id:Nat} {p:It->Bool} : ∀ {l l':List It},DC id l=some l'->l.all p=true->l'.all p=true
 | [],_,h,_=>by cases h
 | .e7 i::l,l',h,ha=>by
  simp only[DC]at h;simp only[List.all_cons,Bool.and_eq_true]at ha;split at h
  ·cases h;exact ha.2
  ·exact YO h ha.2
 | .code c::l,l',h,ha=>by
  simp only[DC]at h;simp only[List.all_cons,Bool.and_eq_true]at ha;exact YO h ha.2
 | .kf a b::l,l',h,ha=>by
  simp only[DC]at h;simp only[List.all_cons,Bool.and_eq_true]at ha;exact YO h ha.2
 | .lp c::l,l',h,ha=>by
  simp only[DC]at h;simp only[List.all_cons,Bool.and_eq_true]at ha;exact YO h ha.2
theorem IK {C:Cl} {kk:List It} {m:Nat} {A4 BJ:St} (hk:run C m kk A4=some BJ) : ∀ (n:Nat) (l:List It) (st:St),l.all J1=true->run C n l st=some A4->run C (n+m) (l++kk) st=some BJ
 | 0,_,_,_,h=>by cases h
 | n+1,[],st,_,h=>by
  simp only[run,Option.some.injEq]at h;subst h;exact JA (C:=C) (C':=C) ⟨λ_ _ _ h=>h,λ_ _ _ _ h=>h,rfl⟩ (by omega) hk
 | n+1,.e7 i::l,st,ha,h=>by
  simp only[List.all_cons,Bool.and_eq_true]at ha;rw[show n+1+m=n+m+1 by omega];simp only[List.cons_append,run]at h ⊢;exact IK hk n l st ha.2 h
 | n+1,.kf ts ss::l,st,ha,h=>by
  simp only[List.all_cons,Bool.and_eq_true]at ha;rw[show n+1+m=n+m+1 by omega];simp only[List.cons_append,run]at h ⊢;exact IK hk n l _ ha.2 h
 | n+1,.lp c::l,st,ha,h=>by
  rw[show n+1+m=n+m+1 by omega];simp only[List.cons_append,run]at h ⊢;exact IK hk n (.code c :: .lp c::l) st (by simp only[List.all_cons,J1,Bool.and_eq_true]at ha ⊢;exact ⟨ha.1,ha.1,ha.2⟩) h
 | n+1,.code c::l,st,ha,h=>by
  simp only[List.all_cons,J1,Bool.and_eq_true]at ha;obtain ⟨h1,h2⟩:=ha;rw[show n+1+m=n+m+1 by omega];cases c with
  | ret=>cases h1
  | skip =>
   simp only[List.cons_append,run]at h ⊢;exact IK hk n l st h2 h
  | ops o d =>
   simp only[List.cons_append,run]at h ⊢;cases hs:CU C o st with
   | none=>rw[hs]at h;cases h
   | some s'=>rw[hs]at h;exact IK hk n l s' h2 h
  | dr c ts ss =>
   simp only[List.cons_append,run]at h ⊢;exact IK hk n (.code c :: .kf ts ss::l) st (by simp only[List.all_cons,J1,Bool.and_eq_true];exact ⟨h1,trivial,h2⟩) h
  | scope c =>
   simp only[List.cons_append,run]at h ⊢;exact IK hk n (.code c::l) st (by simp only[List.all_cons,J1,Bool.and_eq_true];exact ⟨h1,h2⟩) h
  | seq a b =>
   simp only[J0,Bool.and_eq_true]at h1;simp only[List.cons_append,run]at h ⊢;exact IK hk n (.code a :: .code b::l) st (by simp only[List.all_cons,J1,Bool.and_eq_true];exact ⟨h1.1,h1.2,h2⟩) h
  | cond x a b =>
   simp only[J0,Bool.and_eq_true]at h1;simp only[List.cons_append,run]at h ⊢;split at h
   ·exact IK hk n (.code a::l) st (by simp only[List.all_cons,J1,Bool.and_eq_true];exact ⟨h1.1,h2⟩) h
   ·exact IK hk n (.code b::l) st (by simp only[List.all_cons,J1,Bool.and_eq_true];exact ⟨h1.2,h2⟩) h
   ·cases h
  | block i c =>
   simp only[List.cons_append,run]at h ⊢;exact IK hk n (.code c :: .e7 i::l) st (by simp only[List.all_cons,J1,Bool.and_eq_true];exact ⟨h1,trivial,h2⟩) h
  | loop c =>
   simp only[List.cons_append,run]at h ⊢;exact IK hk n (.code c :: .lp c::l) st (by simp only[List.all_cons,J1,Bool.and_eq_true];exact ⟨h1,h1,h2⟩) h
  | exit i =>
   simp only[List.cons_append,run]at h ⊢;cases he:DC i l with
   | none=>rw[he]at h;cases h
   | some l' =>
    rw[he]at h;rw[YP he];exact IK hk n l' st (YO he h2) h
theorem QC {l kk:List It} {tm:Tm} {M:Mem} {Q:Tm->Mem->Prop} (hn:l.all J1=true) (h:AA L l tm M (λ tm M=>AA L kk tm M Q)):AA L (l++kk) tm M Q:=by
 intro σ st hr;obtain ⟨n,c,A4,h1,σ1,Qd,M1,bz,h2⟩:=h σ st hr;obtain ⟨m,c2,BJ,h3,h4⟩:=h2 σ1 A4 bz;obtain ⟨c3,g1,g2⟩ : ∃ c3,(CH L c).le (CH L c3)/\(CH L c2).le (CH L c3):=⟨max c c2,E0 (Nat.le_max_left _ _),E0 (Nat.le_max_right _ _)⟩;exact ⟨n+m,c3,BJ,IK (JA g2 (Nat.le_refl _) h3) n l st hn (JA g1 (Nat.le_refl _) h1),h4⟩
structure ZZ (p:Prop):Prop where
 go ::
 out:p
theorem Ru {α β γ:Type} {l kk:List It} {tm:Tm} {M:Mem} {Q:Tm->Mem->Prop} (P:α->β->γ->Prop) (vs:α->β->γ->Tm) (Ms:α->β->γ->Mem) (ts:List Nat) (hn:l.all J1=true)
  (hr : ∀ a b c,P a b c->AA L kk (vs a b c++v7 ts tm) (Ms a b c++M) Q)
  (h:(∀ a b c,P a b c->AA L kk (vs a b c++v7 ts tm) (Ms a b c++M) Q)->AA L l tm M (λ tm M=>ZZ (AA L kk tm M Q))):AA L (l++kk) tm M Q:=by
 refine QC hn ?_;intro σ st hs;obtain ⟨n,c,A4,h1,σ1,Qd,M1,bz,h2⟩:=h hr σ st hs;exact ⟨n,c,A4,h1,σ1,Qd,M1,bz,h2.out⟩
end Go.e8

namespace Go.e8
open F
attribute [local irreducible] AA AF AM AE C8 AX BF BD B9 B2 CX E9 B0 A5 B5 CQ AB A7 AJ pw BR BO C4 D0 DZ DU DN BZ DW
variable {L:Lib}
set_option maxHeartbeats 16000000
abbrev CE (q:Bool) (m:List (List Rat)):List (List AV):=m.map λ r=>[AV.sl q (r.map eQ)]
theorem V7 (m:List (List Rat)) (e:Int):A1 (.l6 [.sl false (eM m),.int .i64 e]):=by
 simp only[A1,CD,and_true,true_and];exact oR m
theorem bF (N:q9 L) (q q':Bool) (a:List (List Rat)) (n w:Nat) (hn:a.length=n) (hw : ∀ r∈a,r.length=w) (h1:1<=n/\n<=52) (h2:1<=w/\w<=52):Ev L 229 [.sl q (CE q' a)] (.bool true):=by
 obtain ⟨r0,s8⟩ : ∃ r,a[0]? = some r:=⟨_,zE (by omega)⟩;have rk:a[(0:Int).toNat]? = some r0:=s8;have jv:=hw r0 (zM s8);refine Ev.x N.KX rfl rfl ?_;(repeat' ((first|(apply AG<;>intro hc<;>try omega)|apply AQ|(refine A8 (by assumption) ?_ rfl ?_;omega)|apply AD)<;>conv=>whnf))
 refine DF (λ i=>n-i) (λ(i:Nat)=>i<=n) (λ i=>[(20,.int .i64 i)]) (λ_=>[]) 0 (by omega) ?_;intro i p1 ih;by_cases hi:i<n
 ·obtain ⟨r,hr⟩ : ∃ r,a[i]? = some r:=⟨_,zE (by omega)⟩
  have ml:a[(i:Int).toNat]? = some r:=hr;have hl:=hw r (zM hr);(repeat' ((first|(apply AG<;>intro hc<;>try omega)|(apply A0;omega)|apply AQ|(refine A8 (by assumption) ?_ rfl ?_;omega)|apply AD)<;>conv=>whnf))
  exact BQ [] (ih (i+1) (by omega) (by omega))
 ·obtain rfl:i=n:=by omega
  clear ih;(repeat' ((first|(apply AG<;>intro hc<;>try omega)|apply AD)<;>conv=>whnf))
  exact HH rfl
def cw (n:Nat) (v:List Rat):List (Option Rat):=List.replicate (n-v.length) none++v.map some
theorem QR {l:List Rat} {i:Nat} (h:i<l.length):l[i]? = some (l.getD i 0):=by
 rw[List.getD_eq_getElem?_getD,zE h];rfl
theorem pX:dg 1=[1]:=by rw[IC (by decide)];simp [EN]
theorem gX (N:b8 L) {s:Rat} {a l d:Nat} (q:Bool) (hs:Bt a s) (hd:d<=2^l) (ha:a<2199023255552) (hl:l<2199023255552):Ev L 99 [.agg (eQ s),.agg [.bool false,.sl false ((dg d).map AL),.sl q [[.int .u32 1]]]] (.agg (eQ (s*((d:Nat):Rat)))):=by
 have nx:Bt l ((d:Nat):Rat):=⟨by simpa using hd,by simpa using Nat.one_le_two_pow⟩;have e:=E2 ((d:Nat):Rat);have h1:=(nx.sm hl).1;have h2:=(nx.sm hl).2;rw[Rat.num_natCast,Rat.den_natCast,Int.natAbs_natCast,show decide ((d:Int)<0)=false by simp,pX]at e;rw[Rat.num_natCast,Int.natAbs_natCast]at h1;rw[Rat.den_natCast,pX]at h2;have h:=sF N 68719476736 (by omega) (decide (s.num<0)) false false false false q _ _ (dg d) [1] (hs.sm ha).1 (hs.sm ha).2 h1 h2;rw[E2,e]at h;exact h
theorem zW {N i k:Nat} (hk:k<N) : ∀ t,t∈(List.range N).set i k->t<N:=λ t ht=>by
 rcases List.mem_or_eq_of_mem_set ht with h|h
 ·exact List.mem_range.1 h
 ·omega
theorem K7 {z:Nat} {m:List (List Rat)} {i:Nat} {r:List Rat} (h:m[i]? = some r):(BM z eQ m)[i]? = some (some (z,r.map eQ)):=by
 rw[BM,List.getElem?_map,h];rfl
theorem vM {z:Nat} {m:List (List Rat)} {i j:Nat} {a b:List Rat}:((BM z eQ m).set i (some (z,b.map eQ))).set j (some (z,a.map eQ))=BM z eQ ((m.set i b).set j a):=by
 simp only[BM,List.map_set]
theorem VY {R:List (Option (Nat × List (List AV)))} {e z:Nat} {es:List (List AV)} {K:Nat->List (List AV)->Prop} (h:R[e]? = some (some (z,es))) (hk:K z es):BO R e K:=by
 unfold BO;exact ⟨z,es,h,hk⟩
theorem ZI {α:Type} {l:List α} {i:Nat} {x:α} (h:l[i]? = some x):l.set i x=l:=by
 obtain ⟨h1,rfl⟩:=zS h;exact List.set_getElem_self h1
theorem Agi {a b:List Rat} {c:Nat} (hl:a.length=b.length) (h : ∀ j,j<c->a.getD j 0=0/\b.getD j 0=0):a.take c++b.drop c=b:=by
 have e:a.take c=b.take c:=by
  refine List.ext_getElem? λ j => ?_
  rw[List.getElem?_take,List.getElem?_take];by_cases hj:j<c
  ·rw[if_pos hj,if_pos hj]
   obtain ⟨h1,h2⟩:=h j hj;rw[List.getD_eq_getElem?_getD]at h1 h2;by_cases gv:j<a.length
   ·rw[zE gv,zE (by omega)]at *
    simp only[Option.getD_some]at h1 h2;rw[h1,h2]
   ·rw[List.getElem?_eq_none (by omega),List.getElem?_eq_none (by omega)]
  ·rw[if_neg hj,if_neg hj]
 rw[e,List.take_append_drop]
theorem Agg {a b:List Rat} {j:Nat} {x:Rat} (hl:a.length=b.length) (hx:b[j]? = some x):(a.take j++b.drop j)[j]? = some x:=by
 have h1:=(zS hx).1;have ht:(a.take j).length=j:=by rw[List.length_take];omega
 rw[List.getElem?_append_right (by omega),ht,Nat.sub_self,List.getElem?_drop];exact hx
theorem Agh {a b:List Rat} {j:Nat} {y:Rat} (hl:a.length=b.length) (hy:a[j]? = some y):(a.take j++b.drop j).set j y=a.take (j+1)++b.drop (j+1):=by
 have h1:=(zS hy).1;have ht:(a.take j).length=j:=by rw[List.length_take];omega
 rw[List.set_append_right _ _ (by omega),ht,Nat.sub_self,List.drop_eq_getElem_cons (by omega),List.set_cons_zero,H7 hy,List.append_assoc];rfl
def gQ:Option (List Rat)->List AV
 | none=>[.nil]
 | some r=>[.sl false (r.map eQ)]
theorem AeR {n:Nat} {l:List (List Rat)} (h:l.length=n):(fz none (l.map some) n).map gQ=eM l:=by
 rw[bK (by simpa using h),List.map_map];rfl
theorem AfQ {a b:List (List Rat)} {n w k:Nat} (du : ∀ r∈a,r.length=n) (oy : ∀ r∈b,r.length=w) (au:Ms k a) (fb:Ms k b):(∀ r∈E1 a b,r.length=n+w)/\Ms k (E1 a b):=by
 constructor
 ·intro r hr
  obtain ⟨i,hi⟩:=List.getElem?_of_mem hr;have aw:=(zS hi).1;simp only[E1,List.length_zipWith]at aw;obtain ⟨x,hx⟩ : ∃ x,a[i]? = some x:=⟨_,zE (by omega)⟩;obtain ⟨y,hy⟩ : ∃ y,b[i]? = some y:=⟨_,zE (by omega)⟩;obtain rfl:=Option.some.inj ((jH hx hy).symm.trans hi);rw[List.length_append,du x (zM hx),oy y (zM hy)]
 ·intro r hr
  obtain ⟨i,hi⟩:=List.getElem?_of_mem hr;have aw:=(zS hi).1;simp only[E1,List.length_zipWith]at aw;obtain ⟨x,hx⟩ : ∃ x,a[i]? = some x:=⟨_,zE (by omega)⟩;obtain ⟨y,hy⟩ : ∃ y,b[i]? = some y:=⟨_,zE (by omega)⟩;obtain rfl:=Option.some.inj ((jH hx hy).symm.trans hi);intro z hz;rcases List.mem_append.1 hz with hz|hz
  ·exact au.at hx z hz
  ·exact fb.at hy z hz
theorem iH (N:ak L) (q q':Bool) (a:List (List Rat)) (n w:Nat) (hn:a.length=n) (hw : ∀ r∈a,r.length=w) (h1:1<=n/\n<=52) (h2:1<=w/\w<=52):Ev L 239 [.sl q (CE q' a)] (.bool true):=by
 obtain ⟨r0,s8⟩ : ∃ r,a[0]? = some r:=⟨_,zE (by omega)⟩;have rk:a[(0:Int).toNat]? = some r0:=s8;have jv:=hw r0 (zM s8);refine Ev.x N.MZ rfl rfl ?_;(repeat' ((first|(apply AG<;>intro hc<;>try omega)|apply AQ|(refine A8 (by assumption) ?_ rfl ?_;omega)|apply AD)<;>conv=>whnf))
 refine DF (λ i=>n-i) (λ(i:Nat)=>i<=n) (λ i=>[(29,.int .i64 i)]) (λ_=>[]) 0 (by omega) ?_;intro i p1 ih;by_cases hi:i<n
 ·obtain ⟨r,hr⟩ : ∃ r,a[i]? = some r:=⟨_,zE (by omega)⟩
  have ml:a[(i:Int).toNat]? = some r:=hr;have hl:=hw r (zM hr);(repeat' ((first|(apply AG<;>intro hc<;>try omega)|(apply A0;omega)|apply AQ|(refine A8 (by assumption) ?_ rfl ?_;omega)|apply AD)<;>conv=>whnf))
  exact BQ [] (ih (i+1) (by omega) (by omega))
 ·obtain rfl:i=n:=by omega
  clear ih;(repeat' ((first|(apply AG<;>intro hc<;>try omega)|apply AD)<;>conv=>whnf))
  exact HH rfl
theorem AeD (N:ak L) (n:Nat) (hn:1<=n/\n<=52):Ev L 240 [.int .i64 n] (.l6 [.sl false (eM (FV n)),.int .i64 0]):=by
 have hO:=QK N.toa7 0 (by omega);have hI:=QK N.toa7 1 (by omega);have db : ∀ i,i<n->(FV n)[i]? = some (DE n i):=λ i hi=>by simp [FV,hi]
 have ck:(FV n).length=n:=by simp [FV]
 generalize hT:FV n=T at *;refine Ev.x N.MX rfl rfl ?_;(repeat' ((first|(apply AG<;>intro hc<;>try omega)|apply AD)<;>conv=>whnf))
 refine ZU 4 4 rfl ?_;refine DF (λ i=>n-i) (λ(i:Nat)=>i<=n) (λ i=>[(5,.int .i64 i),(4,.row 4 0 1 0 i)]) (λ i=>[(4,4,.mx (BM 3 eQ (T.take i)))]) 0 (by omega) ?_;intro i p1 ih;have Cv:(T.take i).length=i:=by rw[List.length_take];omega
 by_cases hi:i<n
 ·have zu:=NX (db i hi)
  generalize T.take i=R0 at *;(repeat' ((first|(apply AG<;>intro hc<;>try omega)|apply AD)<;>conv=>whnf))
  refine EH (enc:=eO) none n rfl (by omega) (by omega) ?_;(conv=>whnf)
  skip
  refine DL (λ j=>n-j) (λ(j:Nat)=>j<=n) (λ j=>[(23,.int .i64 j)]) (λ j=>[(20,20,.rw 3 ((D4 (List.replicate j 0) n).map eO))]) [] [] 0 (by first|exact (by (conv=>whnf);exact ⟨rfl,rfl,rfl⟩)|(rw[List.replicate_zero,<-JT];exact (by (conv=>whnf);exact ⟨rfl,rfl,rfl⟩))) (by omega) ?_;intro j r2 jh;have pj:(List.replicate j (0:Rat)).length=j:=by simp
  have wc:=JS (l:=List.replicate j (0:Rat)) (m:=n) (by omega);by_cases hj:j<n
  ·have hs:=JU (l:=List.replicate j (0:Rat)) (m:=n) (x:=((0:Int):Rat)) (by omega)
   rw[pj,show List.replicate j (0:Rat)++[((0:Int):Rat)]=List.replicate (j+1) 0 from List.replicate_succ'.symm]at hs;generalize D4 (List.replicate j (0:Rat)) n=W at *;(repeat' ((first|(apply AG<;>intro hc<;>try omega)|(apply AU;omega)|apply AD|refine AC (hO) ?_)<;>conv=>whnf))
   refine F3 (enc:=eO) (some ((0:Int):Rat)) rfl (λ e=>by cases e<;>rfl) (by omega) ?_;(conv=>whnf)
   rw[hs];(repeat' ((first|(apply A0;omega)|fail)<;>conv=>whnf))
   exact BQ [] (jh (j+1) (by omega) (by omega))
  obtain rfl:j=n:=by omega
  clear jh;rw[JR (by omega)];(repeat' ((first|(apply AG<;>intro hc<;>try omega)|(apply AU;omega)|apply AD|refine AC (hI) ?_)<;>conv=>whnf))
  refine F3 (enc:=eQ) ((1:Int):Rat) rfl (λ_=>rfl) (by omega) ?_;rw[show (List.replicate j (0:Rat)).set i ((1:Int):Rat)=DE j i from mH j i];(conv=>whnf)
  skip
  have fu:=O9 j i;generalize DE j i=u at *;refine AU (by rw[List.length_map];omega) ?_;refine XP (r:=u) (en:=eQ) Cv.symm (by omega) (by omega) ?_;rw[<-zu,show (T.take (i+1)).length=i+1 by rw[List.length_take];omega];(conv=>whnf)
  (repeat' ((first|(apply A0;omega)|fail)<;>conv=>whnf))
  exact BQ [(4,38)] (ih (i+1) (by omega) (by omega))
 ·obtain rfl:i=n:=by omega
  clear ih;rw[zT (by omega)];(repeat' ((first|(apply AG<;>intro hc<;>try omega)|apply AD)<;>conv=>whnf))
  refine QG (λ_=>rfl) rfl ck.symm ?_;(conv=>whnf)
  exact AW rfl (V7 T 0)
theorem sD (N:ak L) (q1 q2 q3 q4:Bool) (a b:List (List Rat)) (p n w k l:Nat) (x7:a.length=p) (du : ∀ r∈a,r.length=n) (fy:b.length=n) (oy : ∀ r∈b,r.length=w) (hp:1<=p/\p<=52) (hn:1<=n/\n<=52) (hw:1<=w/\w<=52) (au:Ms k a) (fb:Ms l b) (hB:n*(k+l+1)<2199023255552) :
  Ev L 241 [.sl q1 (CE q2 a),.sl q3 (CE q4 b)] (.l6 [.sl false (eM (EJ a b w)),.int .i64 0]):=by
 have Gw:=iH N q1 q2 a p n x7 du hp hn;have Gx:=iH N q3 q4 b n w fy oy hn hw;have hO:=QK N.toa7 0 (by omega);obtain ⟨r0,s8⟩ : ∃ r,a[0]? = some r:=⟨_,zE (by omega)⟩;have rk:a[(0:Int).toNat]? = some r0:=s8;have jv:=du r0 (zM s8);obtain ⟨s0,rl⟩ : ∃ r,b[0]? = some r:=⟨_,zE (by omega)⟩;have Lg:b[(0:Int).toNat]? = some s0:=rl;have mh:=oy s0 (zM rl);have db : ∀ (i:Nat) (r:List Rat),a[i]? = some r->(EJ a b w)[i]? = some (GJ r b w):=λ i r hr=>by rw[EJ,List.getElem?_map,hr];rfl
 have ck:(EJ a b w).length=p:=by rw[vK];exact x7
 generalize hT:EJ a b w=T at *;refine Ev.x N.MY rfl rfl ?_;(repeat' ((first|(apply AG<;>intro hc<;>try omega)|apply AQ|(refine A8 (by assumption) ?_ rfl ?_;omega)|apply AD|refine AC (Gw) ?_|refine AC (Gx) ?_)<;>conv=>whnf))
 refine ZU 6 6 rfl ?_;refine DF (λ i=>p-i) (λ(i:Nat)=>i<=p) (λ i=>[(31,.int .i64 i),(6,.row 6 0 1 0 i)]) (λ i=>[(6,6,.mx (BM 3 eQ (T.take i)))]) 0 (by omega) ?_;intro i p1 ih;have Cv:(T.take i).length=i:=by rw[List.length_take];omega
 by_cases hi:i<p
 ·obtain ⟨r,hr⟩ : ∃ r,a[i]? = some r:=⟨_,zE (by omega)⟩
  have ml:a[(i:Int).toNat]? = some r:=hr;have bk:=du r (zM hr);have gy:=au.at hr;have zu:=NX (db i r hr);have dm : ∀ j,j<w->(GJ r b w)[j]? = some (A2 r (C0 b j)):=λ j hj=>by simp [GJ,hj]
  have jn:=kA r b w;generalize T.take i=R0 at *;generalize GJ r b w=M at *;(repeat' ((first|(apply AG<;>intro hc<;>try omega)|apply AQ|(refine A8 (by assumption) ?_ rfl ?_;omega)|apply AD)<;>conv=>whnf))
  refine DF (λ j=>w-j) (λ(j:Nat)=>j<=w) (λ j=>[(38,.int .i64 j),(8,.row 8 0 3 0 j)]) (λ j=>[(8,8,.rw 3 ((M.take j).map eQ))]) 0 (by omega) ?_;intro j p2 jh;have pj:(M.take j).length=j:=by rw[List.length_take];omega
  by_cases hj:j<w
  ·have qo:=NX (dm j hj)
   have q6:=aQ b j;have jt:Bs l (C0 b j):=λ x hx=>by
    obtain ⟨s,hs,rfl⟩:=List.mem_map.1 hx;obtain ⟨e,xj⟩:=List.getElem?_of_mem hs;exact (fb.at xj).at (QR (by rw[oy s hs];exact hj))
   have hce : ∀ (t:Nat) (s:List Rat) (x:Rat),b[t]? = some s->s[j]? = some x->(C0 b j)[t]? = some x:=λ t s x h1 h2=>by
    rw[C0,List.getElem?_map,h1,Option.map_some,List.getD_eq_getElem?_getD,h2];rfl
   generalize C0 b j=C at *;generalize M.take j=M0 at *;(repeat' ((first|(apply AG<;>intro hc<;>try omega)|apply AQ|apply AD|refine AC (hO) ?_)<;>conv=>whnf))
   refine DL (λ t=>n-t) (λ(t:Nat)=>t<=n) (λ t=>[(44,.int .i64 t)]) (λ t=>[(10,10,.bx (eQ (A2 (r.take t) (C.take t))))]) [] [] 0 (by first|exact (by (conv=>whnf);exact ⟨rfl,rfl,rfl⟩)|(rw[List.take_zero,List.take_zero];exact (by (conv=>whnf);exact ⟨rfl,rfl,rfl⟩))) (by omega) ?_;intro t p3 th;by_cases ht:t<n
   ·obtain ⟨s,hs⟩ : ∃ s,b[t]? = some s:=⟨_,zE (by omega)⟩
    have zm:b[(t:Int).toNat]? = some s:=hs;have hsl:=oy s (zM hs);obtain ⟨x,hx⟩ : ∃ x,r[t]? = some x:=⟨_,zE (by omega)⟩;obtain ⟨y,hy⟩ : ∃ y,s[j]? = some y:=⟨_,zE (by omega)⟩;have jg:r[(t:Int).toNat]? = some x:=hx;have yc:s[(j:Int).toNat]? = some y:=hy;have yd:=(fb.at hs).at hy;have dk:=(gy.take t).dot (jt.take t);rw[List.length_take,Nat.min_eq_left (by omega)]at dk;have oa:k+l+1<=n*(k+l+1):=Nat.le_mul_of_pos_left _ (by omega);have htn:t*(k+l+1)<=n*(k+l+1):=zR _ (by omega);have tu:=T4 N.toa7 (gy.at hx) yd (by omega) (by omega);have Ai:=gW N.toa7 dk ((gy.at hx).mul yd) (by omega) (by omega);rw[<-gL hx (hce t s y hs hy)]at Ai;generalize A2 (r.take t) (C.take t)=d0 at *;generalize ki:A2 (r.take (t+1)) (C.take (t+1))=d1 at Ai;generalize x*y=xy at *;(repeat' ((first|(apply AG<;>intro hc<;>try omega)|(apply A0;omega)|(refine A8 (by assumption) ?_ rfl ?_;omega)|apply AD|refine AC (tu) ?_|refine AC (Ai) ?_)<;>conv=>whnf))
    subst ki;exact BQ [] (th (t+1) (by omega) (by omega))
   ·obtain rfl:t=n:=by omega
    clear th;rw[gI bk];(repeat' ((first|(apply AG<;>intro hc<;>try omega)|apply EE|apply AD)<;>conv=>whnf))
    refine EX (enc:=eQ) (A2 r C) rfl pj.symm rfl (by omega) (by omega) ?_;rw[<-qo,show (M.take (j+1)).length=j+1 by rw[List.length_take];omega];(conv=>whnf)
    (repeat' ((first|(apply A0;omega)|fail)<;>conv=>whnf))
    exact BQ [(8,68)] (jh (j+1) (by omega) (by omega))
  ·obtain rfl:j=w:=by omega
   clear jh;rw[zT (by omega)];(repeat' ((first|(apply AG<;>intro hc<;>try omega)|apply AD)<;>conv=>whnf))
   refine AU (by rw[List.length_map,jn]) ?_;refine XP (r:=M) (en:=eQ) Cv.symm (by omega) (by omega) ?_;rw[<-zu,show (T.take (i+1)).length=i+1 by rw[List.length_take];omega];(conv=>whnf)
   (repeat' ((first|(apply A0;omega)|fail)<;>conv=>whnf))
   exact BQ [(6,73)] (ih (i+1) (by omega) (by omega))
 ·obtain rfl:i=p:=by omega
  clear ih;rw[zT (by omega)];(repeat' ((first|(apply AG<;>intro hc<;>try omega)|apply AD)<;>conv=>whnf))
  refine QG (λ_=>rfl) rfl ck.symm ?_;(conv=>whnf)
  exact AW rfl (V7 T 0)
end Go.e8
