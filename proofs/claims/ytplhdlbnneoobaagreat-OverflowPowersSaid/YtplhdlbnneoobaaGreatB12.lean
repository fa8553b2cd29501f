/-
  Powers and sums (layer 29): the program's Sum.
-/
import Derived.Test.YtplhdlbnneoobaaGreatB11
import Derived.Test.YtplhdlbnneoobaaGreatB10
import Derived.Test.YtplhdlbnneoobaaGreatB9
import Derived.Test.YtplhdlbnneoobaaGreatB7
import Derived.Test.YtplhdlbnneoobaaGreatB4
set_option linter.unusedSimpArgs false
set_option linter.unusedVariables false
set_option linter.unnecessarySimpa false
namespace Go.c4
open F
attribute [local irreducible] AA AF AR AB B7 AQ AY A7 A6 BS AP BO BW C0 BL A0 BH BZ AC A4 AL pw CD B2 CH CX CS CK CI BI B8
variable {L:Lib}
set_option maxHeartbeats 16000000
set_option maxRecDepth 8000
theorem Mp {Z:List (List Rat)} {T:Rat} (h:Z≠[]) : ¬ G8 (.agg (QB Z T)):=by
 intro hf;have h1:=hf (.sl false (eM Z)) (by simp);cases Z with
 | nil=>exact h rfl
 | cons r Z =>
  have h2:=h1 [.sl false (r.map eQ)] (by simp) (.sl false (r.map eQ)) (by simp);simp [Y3]at h2
theorem Nh {n k j:Nat} (hn:n<=4) (hj:j<=128):S3 n k j<=5*k+128*(17*k+4):=by
 have h1:n*n<=4*4:=Nat.mul_le_mul hn hn;have h2:n*n*k<=16*k:=Nat.mul_le_mul_right k h1;have h3:n*k<=4*k:=Nat.mul_le_mul_right k hn;have h4:j*((k+n*n*k)+n)<=128*(17*k+4):=Nat.mul_le_mul hj (by omega);rw[S3];omega
theorem X7 (b:List Rat):[b].flatten=b:=by simp
theorem xG (N:n7 L) (S:GH) (n k:Nat) (hS:S.Ok n k) (hn:n<=4) (hk:k<=1000) :
  ∃ v,Ev L 307 [.agg (eS S)] v/\((∃ i,i<=6/\H2 n S.a i/\v = .j4 [.agg (eQ (QX S (2^i))),.int .i64 0])\/((∀ j,j<=6->DP (B1 n S.a j)=false)/\v = .j4 [.agg [.bool false,.sl false [],.sl false []],.int .i64 14])):=by
 have Ha:=wH N.tode S n k hS (by omega);have Qv:=hS.la;have Qw:=hS.lb;have fq:=hS.lc;have tn:Sq n S.a:=⟨hS.la,hS.lr⟩;obtain ⟨v,Cp,hv⟩:=fZ N false false S.a n k tn hS.ba hn (by omega);have nj:=XT N true false [S.b] k (λ r hr=>by obtain rfl:=List.mem_singleton.1 hr;exact hS.bb) (by rw[X7];omega) (by simp) (by omega);have tl:=XT N true false [S.c] k (λ r hr=>by obtain rfl:=List.mem_singleton.1 hr;exact hS.bc) (by rw[X7];omega) (by simp) (by omega);rw[X7]at nj tl;refine Ev.xE N.J9 rfl rfl ?_;rcases hv with ⟨i,h1,h2,rfl⟩|⟨h1,rfl⟩
 ·obtain ⟨D,eD,d1,d2,d3⟩:=lS tn hS.ba
  obtain ⟨E,eE,e1,e2,e3⟩:=iZ hS.lb hS.bb;obtain ⟨O,Fq,o1,o2,o3⟩:=iZ hS.lc hS.bc;obtain ⟨g1,_,g3⟩:=U7 h1;have Bf:n*n<=4*4:=Nat.mul_le_mul hn hn;have Ds:n*n*k<=16*k:=Nat.mul_le_mul_right k Bf;have Rj:n*k<=4*k:=Nat.mul_le_mul_right k hn;have bD:Bt 16000 (D:Rat):=(UZ d2).le (by omega);have bE:Bt 4000 (E:Rat):=(UZ e2).le (by omega);have bO:Bt 4000 (O:Rat):=(UZ o2).le (by omega);have pD:=U0 d1;have pE:=U0 e1;have pO:=U0 o1;have Hn:=nF tn d3 e3;have mb : ∀ j,j<=128->Bs 3000000 (DK S.a S.b (D:Rat) (E:Rat) j):=λ j hj x hx=>((Hn j x hx).le (by have:=Nh (n:=n) (k:=k) hn hj;omega)).bt
  have kg:Bs 5000 (S.c.map (· * (O:Rat))):=λ x hx=>((o3 x hx).le (by omega)).bt
  have As:Ms 17000 (B4 (D:Rat) S.a):=λ r hr x hx=>((d3 r hr x hx).le (by omega)).bt
  have qt:=Nv (S:=S) (p:=2^i) g3 pD pE pO;have zz:QX S (2^i)=CJ S.d+(I3 (QH S.a S.b S.c) (2^i+2^i)+BG S.c*I3 (λ j=>QI S.a S.b (2^i+j)) (2^i)):=rfl;rw[<-qt]at zz;rw[eD]at Cp;rw[eE]at nj;rw[Fq]at tl;clear eD eE Fq Hn d1 d2 d3 e1 e2 e3 o1 o2 o3 qt;generalize (D:Rat)=D at *;generalize (E:Rat)=E at *;generalize (O:Rat)=O at *;have Pm:=λ q=>XU N q S.c O k 4000 hS.bc bO (by omega) (by omega) (by omega)
  have Pl:=λ q=>XU N q S.b E k 4000 hS.bb bE (by omega) (by omega) (by omega)
  have tc : ∀ j,(DK S.a S.b D E j).length=n:=λ j=>by rw[DK,List.length_map,Og Qv Qw]
  have hW:=xH N false (B4 D S.a) D (D^(2^i+2^i-1)) (DK S.a S.b D E) n (2^i) 17000 16000 3000000 (lP _ tn) As bD mb tc (nE S.a S.b D E) hn ⟨g3,g1⟩ (by omega) (by omega) (by omega);rw[nG]at hW;have bt:Bt 200000000 (DY D (λ m=>C1 (DK S.a S.b D E (2^i+m))) (2^i)):=(R6 bD _ λ j hj=>US (mb (2^i+j) (by omega))).le (by
   have:=Nat.mul_le_mul_right (16000+3000000+1) g1
   omega)
  have hG:=λ q=>xB N false q (B4 D S.a) D (DY D (λ m=>C1 (DK S.a S.b D E (2^i+m))) (2^i)) (D^(2^i+2^i-1)) ((2^i:Nat):Int) (S.c.map (· * O)) (DK S.a S.b D E) n (2^i+2^i) 16000 5000 3000000 200000000 bD kg (by rw[List.length_map];exact fq) mb tc bt hn (by omega) (by omega) (by omega) (by omega) (by omega)
  have tf:Bt 3000000000 (DY D (λ j=>CJ (BP (S.c.map (· * O)) (DK S.a S.b D E j))) (2^i+2^i)+BG (S.c.map (· * O))*DY D (λ m=>C1 (DK S.a S.b D E (2^i+m))) (2^i)):=by
   have q1 : ∀ j,j<2^i+2^i->Bt (4*(5000+3000000+1)) (CJ (BP (S.c.map (· * O)) (DK S.a S.b D E j))):=λ j hj=>NS ((kg.dot (mb j (by omega))).le (Nat.mul_le_mul_right _ (by rw[List.length_map];omega)))
   have q2:=(R6 bD (2^i+2^i) q1).le (Nat.mul_le_mul_right _ (show 2^i+2^i<=128 by omega));have q3:Bt (4*(5000+1)) (BG (S.c.map (· * O))):=(PP kg).le (Nat.mul_le_mul_right _ (by rw[List.length_map];omega));exact (q2.add (q3.mul bt)).le (by omega)
  have blast:Bt 2100000 (D^(2^i+2^i-1)):=(ZE bD _).le (by
   have:=Nat.mul_le_mul_right 16000 (show 2^i+2^i-1<=127 by omega)
   omega)
  have ep:=M6 N.toa7 bE bO (by omega) (by omega);have ga:=M6 N.toa7 blast (bE.mul bO) (by omega) (by omega);have k8:D^(2^i+2^i-1)*(E*O)≠0:=by
   have zm : ∀ j:Nat,0<D^j:=λ j=>by
    induction j with
    | zero=>rw[Rat.pow_zero];decide
    | succ j ih=>rw[Rat.pow_succ];exact Rat.mul_pos ih pD
   have:=Rat.mul_pos (zm (2^i+2^i-1)) (Rat.mul_pos pE pO)
   grind
  have Cj:=fG N.toa7 tf (blast.mul (bE.mul bO)) (by omega) (by omega) k8;have Ox:=UF N.tov5 hS.bd (by omega);have Fu:=O1 N.toa7 (NS hS.bd) (tf.xm (blast.mul (bE.mul bO))) (by omega) (by omega);rw[<-zz]at Fu;have yo : ¬ G8 (.agg (QB ((List.range (2^i+2^i)).map (DK S.a S.b D E)) (DY D (λ m=>C1 (DK S.a S.b D E (2^i+m))) (2^i)))):=Mp (by
   intro e;have:=congrArg List.length e
   simp at this)
  have Rb:=Jj ((List.range (2^i+2^i)).map (DK S.a S.b D E)) (DY D (λ m=>C1 (DK S.a S.b D E (2^i+m))) (2^i));have az : ∀ r:AV,r = .j4 [.agg (eQ (QX S (2^i))),.int .i64 0]->((∃ i,i<=6/\H2 n S.a i/\r = .j4 [.agg (eQ (QX S (2^i))),.int .i64 0])\/((∀ j,j<=6->DP (B1 n S.a j)=false)/\r = .j4 [.agg [.bool false,.sl false [],.sl false []],.int .i64 14])):=λ r hr=>Or.inl ⟨i,h1,h2,hr⟩
  clear zz tf blast bt k8 mb kg As pD pE pO;generalize QX S (2^i)=W at *;generalize DY D (λ j=>CJ (BP (S.c.map (· * O)) (DK S.a S.b D E j))) (2^i+2^i)+BG (S.c.map (· * O))*DY D (λ m=>C1 (DK S.a S.b D E (2^i+m))) (2^i)=U at *;generalize DY D (λ m=>C1 (DK S.a S.b D E (2^i+m))) (2^i)=T at *;generalize (List.range (2^i+2^i)).map (DK S.a S.b D E)=Z at *;generalize D^(2^i+2^i-1)=P at *;generalize 2^i=p at *;(repeat' ((first|(apply AH<;>intro hc<;>try (exfalso;omega))|apply AW|refine HR rfl ?_|apply AE|refine AD (Ha) ?_|refine AD (Cp) ?_|refine AD (nj) ?_|refine AD (tl) ?_|refine AD (Pm _) ?_|refine AD (Pl _) ?_|refine AD (hW) ?_)<;>conv=>whnf))
  refine oQ yo trivial ?_;rw[Rb];(conv=>whnf)
  (repeat' ((first|refine AD (hG _) ?_|refine AD (ep) ?_|refine AD (ga) ?_|refine AD (Cj) ?_|refine AD (Ox) ?_|refine AD (Fu) ?_)<;>conv=>whnf))
  exact ⟨_,AU rfl (cN _ 0),az _ rfl⟩
 ·(repeat' ((first|(apply AH<;>intro hc<;>try (exfalso;omega))|apply AW|apply AE|refine AD (Ha) ?_|refine AD (Cp) ?_)<;>conv=>whnf))
  exact ⟨_,AU rfl (by simp [A1,CM,FO]),Or.inr ⟨h1,rfl⟩⟩
theorem Bt.ng {k:Nat} {x:Rat} (h:Bt k x):Bt k (-x):=⟨by simpa using h.1,by simpa using h.2⟩
theorem sQ {B A:List Rat} {n:Nat} (hB:Bs 4 B) (hA:Bs 4 A):(D4 B A n).Ok n 80:=by
 have hs : ∀ i,Bt 80 (B.getD i 0-B.getD 0 0*A.getD i 0):=λ i=>by
  rw[Rat.sub_eq_add_neg];exact ((MJ hB i).add ((MJ hB 0).mul (MJ hA i)).ng).le (by omega)
 have hu : ∀ j,Bs 80 (G6 n j):=λ j x hx=>by
  simp only[G6,List.mem_map]at hx;obtain ⟨i,_,rfl⟩:=hx;split
  ·exact Bt.one _
  ·exact Bt.zero _
 refine ⟨dC B A n,sR,aL _ _,dE B A n,?_,hu 0,?_,(MJ hB 0).le (by omega)⟩
 ·intro r hr
  simp only[D4,List.mem_map]at hr;obtain ⟨i,_,rfl⟩:=hr;split
  ·intro x hx
   obtain ⟨j,_,rfl⟩:=List.mem_map.1 hx;exact (MJ hA _).ng.le (by omega)
  ·exact hu _
 ·intro x hx
  simp only[D4,List.mem_map]at hx;obtain ⟨i,_,rfl⟩:=hx;exact hs _
theorem yX:Bt 4 (Rat.divInt 1 2):=(Bt.mk (k:=4) (z:=1) (d:=2) (by decide) (by decide))
theorem rP (n:Nat) (hn:n<=3):Bt 6 (NT n):=by
 rw[NT,show (16*n:Int)=((16*n:Nat):Int) by omega,Rat.divInt_ofNat];refine Bt.mk (by decide) ?_;show _<=64;omega
theorem rR (l:List Int) (n:Nat) (hn:n<=3):(P5 l n).Ok n 10:=by
 have h:=mN l n;refine ⟨by rw[P5,Z0];exact h.la,VM _ h.lr,h.lb,h.lc,?_,h.bb.le (by omega),h.bc.le (by omega),h.bd.le (by omega)⟩;intro r hr x hx;obtain ⟨s,hs,rfl⟩:=List.mem_map.1 hr;obtain ⟨y,hy,rfl⟩:=List.mem_map.1 hx;exact (h.ba s hs y hy).mul (rP n hn)
theorem wN (N:dc L):Ev L 318 [] (.bool true):=by
 have A:o0 L:=N.ton7.tov5.too0;have hO:=UH A.toa9 1 (by omega);have Pf:=UH A.toa9 2 (by omega);have hF:=RV A.toa9 1 2 (by omega) (by omega);have hh:=yX;have k8 : -(Rat.divInt 1 2)≠0:=by decide
 have yi:DP (B1 1 [[Rat.divInt 1 2]] 0)=true:=by decide +kernel
 have hval:QX ⟨[[Rat.divInt 1 2]],[1],[Rat.divInt 1 2],1⟩ (2^0)=((2:Int):Rat):=by decide +kernel
 generalize Rat.divInt 1 2=h at *;have hN:=wX A.todd hh (by omega);have hA:Bs 4 [1,-h]:=λ x hx=>by
  rcases List.mem_cons.1 hx with rfl|hx
  ·exact Bt.one 4
  ·obtain rfl:=List.mem_singleton.1 hx
   exact hh.ng
 have hB:Bs 4 [(1:Rat)]:=λ x hx=>by
  obtain rfl:=List.mem_singleton.1 hx;exact Bt.one 4
 have tB:MO [(1:Rat)]=[1]:=by decide
 have tA:MO [1,-h]=[1,-h]:=by
  show List.take (if -h=0 then _ else 2) [1,-h]=_;rw[if_neg k8];rfl
 have hC:=wD A true true [1] [1,-h] 1 4 tB tA hB hA (by simp) (by simp) rfl rfl (by omega);have j5:(D4 [1] [1,-h] 1).Ok 1 80:=sQ hB hA;have e:D4 [1] [1,-h] 1=⟨[[h]],[1],[h],1⟩:=by
  have:D4 [1] [1,-h] 1=⟨[[- -h]],[1],[0-1 * -h],1⟩:=rfl
  rw[this,Rat.neg_neg,show 0-1 * -h=h by grind]
 rw[e]at hC j5;obtain ⟨v,hS,hv⟩:=xG N.ton7 ⟨[[h]],[1],[h],1⟩ 1 80 j5 (by omega) (by omega);rcases hv with ⟨i,_,h2,rfl⟩|⟨h1,rfl⟩
 ·obtain rfl:i=0:=h2.uniq ⟨yi,λ j hj=>absurd hj (by omega)⟩
  rw[hval]at hS;have Fs:Bt 2 ((2:Int):Rat):=⟨by decide,by decide⟩;have vi:=fE A.toa9 Fs Fs (by omega) (by omega);rw[lK.2 rfl]at vi;refine Ev.x N.JK rfl rfl ?_;(repeat' ((first|(apply AH<;>intro hc<;>try (exfalso;omega))|refine HR rfl ?_|refine RB rfl rfl ?_|apply AE|refine AD (hO) ?_|refine AD (hF) ?_|refine AD (hN) ?_|refine AD (hC) ?_|refine AD (hS) ?_|refine AD (Pf) ?_|refine AD (vi) ?_)<;>conv=>whnf))
  exact L6 rfl
 ·have:=h1 0 (by omega)
  rw[yi]at this;cases this
theorem gC (N:dc L) (S:GH) (n:Nat) (hS:S.Ok n 10) (hn:n<=4) : ∃ p e:Int,Ev L 306 [.sl false (GM false S.a)] (.j4 [.int .i64 p,.int .i64 e])/\Ev L 314 [.sl false (GM false S.a)] (.j4 [.int .i64 p,.int .i64 e]):=by
 have tn:Sq n S.a:=⟨hS.la,hS.lr⟩;obtain ⟨v,h1,hv⟩:=xD N.ton7 false false S.a n 10 tn hS.ba hn (by omega);obtain ⟨w,h2,hw⟩:=xV N.toz7 false false S.a n 10 tn hS.ba hn (by omega);rcases hv with ⟨i,i1,i2,rfl⟩|⟨i1,rfl⟩
 ·rcases hw with ⟨j,_,j2,rfl⟩|⟨j1,rfl⟩
  ·obtain rfl:=i2.uniq j2
   exact ⟨_,_,h1,h2⟩
  ·have:=j1 i i1
   rw[i2.1]at this;cases this
 ·rcases hw with ⟨j,j1,j2,rfl⟩|⟨j1,rfl⟩
  ·have:=i1 j j1
   rw[j2.1]at this;cases this
  ·exact ⟨_,_,h1,h2⟩
theorem wO (N:dc L) (l:List Int) (size:Int) (calm:Bool) (q:Bool) (hl : ∀ v∈l,F4 v) (hs:F4 size) :
  Ev L 319 [.sl q (l.map NX),.int .i64 size,.bool calm] (.bool true):=by
 have C:z0 L:=N.toz0;have W:o4 L:=C.toq7.too4;have T:q7 L:=C.toq7;have Gu:=wN N;obtain ⟨g1,g2⟩:=My (v:=size) (m:=4) (by omega);have Gd:=X3 W size 4 hs (by omega);generalize EA size 4=z1 at *;obtain ⟨n,rfl⟩:=Int.eq_ofNat_of_zero_le g1;have lj:=λ q=>wI T l q n hl (by omega)
 have xv:=λ q=>wA C l q n hl (by omega)
 obtain ⟨p1,e1,a1,b1⟩:=gC N (IG l n) n ((mN l n).le (by omega)) (by omega);obtain ⟨p2,e2,a2,b2⟩:=gC N (P5 l n) n (rR l n (by omega)) (by omega);generalize IG l n=S at *;generalize P5 l n=U at *;refine Ev.x N.JJ rfl rfl ?_;cases calm
 ·(repeat' ((first|(apply AH<;>intro hc<;>try (exfalso;omega))|apply AE|refine AD (Gd) ?_|refine AD (lj _) ?_|refine AD (a1) ?_|refine AD (b1) ?_|refine AD (Gu) ?_)<;>conv=>whnf))
  exact L6 rfl
 ·(repeat' ((first|(apply AH<;>intro hc<;>try (exfalso;omega))|apply AE|refine AD (Gd) ?_|refine AD (lj _) ?_|refine AD (xv _) ?_|refine AD (a2) ?_|refine AD (b2) ?_|refine AD (Gu) ?_)<;>conv=>whnf))
  exact L6 rfl
end Go.c4
