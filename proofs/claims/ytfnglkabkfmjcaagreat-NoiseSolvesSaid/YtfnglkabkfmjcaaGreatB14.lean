/-
  The laws NoiseSolves and NoiseAddsUp (layer 30): what they rest on.
-/
import Derived.Test.YtfnglkabkfmjcaaGreatB13
import Derived.Test.YtfnglkabkfmjcaaGreatB5
set_option linter.unusedSimpArgs false
set_option linter.unusedVariables false
set_option linter.unnecessarySimpa false
namespace Go.c5
open F
attribute [local irreducible] AA AF AM AC CI AW AX A5 A6 B3 AQ BS B7 C5 BQ A2 BO B9 AB A9 AJ pw BN BG CH CM CT CP CE BU CK
variable {L:Lib}
set_option maxHeartbeats 32000000
set_option maxRecDepth 8000
theorem sC (l:List Int) (m:Nat) : ∀ x∈FP l m,Wh 14 (((840:Nat):Rat)*x):=λ x hx=>by
 simp only[FP,List.mem_map]at hx;obtain ⟨i,_,rfl⟩:=hx;have:0<=F2 (G8 l (i:Int)) 2000:=by unfold F2;split<;>omega
 exact Ag4 (by omega) (by omega)
theorem Tj {n:Nat} (hn:1<=n):((16*n:Nat):Rat)*JX n=1:=by
 rw[JX,show (16*(n:Int))=((16*n:Nat):Int) by omega,Rat.divInt_ofNat,Rat.mkRat_eq_div,Rat.div_def,show ((1:Int):Rat)=1 from rfl,Rat.one_mul];refine Rat.mul_inv_cancel _ λ e => ?_
 have:=Rat.natCast_inj.1 (e.trans (show (0:Rat)=((0:Nat):Rat) from rfl))
 omega
theorem vB {A:List (List Rat)} {k M:Nat} (h : ∀ r∈A,∀ x∈r,Wh k ((M:Rat)*x)) (i j:Nat):Wh k ((M:Rat)*A0 A i j):=by
 have h0:Wh k ((M:Rat)*0):=by rw[Rat.mul_zero];exact Wh.zero k
 cases e:A[i]? with
 | none =>
  rw[A0,show A.getD i []=[] by rw[List.getD_eq_getElem?_getD,e];rfl];exact h0
 | some r =>
  rw[JW e,List.getD_eq_getElem?_getD];cases e2:r[j]? with
  | none=>exact h0
  | some x=>exact h r (zM e) x (zM e2)
theorem oU {A:List (List Rat)} {B:List Rat} {n k M:Nat} (hA:Sq n A) (hB:B.length=n) (jl:Ms k A) (yh:Bs k B) (hM:1<=M) (cr:M<=2^16)
  (ha : ∀ i j,Wh 16 ((M:Rat)*A0 A i j)) (hb : ∀ i,Wh 30 ((M:Rat)*bQ B i)):SM A B n k:=by
 have Oh:M*M<=2^32:=by
  rw[show (2:Nat)^32=2^16*2^16 from rfl];exact Nat.mul_le_mul cr cr
 have ay:1<=M*M:=Nat.mul_le_mul hM hM;have hg:=Ady (A:=A) ha cr (n:=n);have jn : ∀ r∈CO (gM A n) ((gR B n).map λ x=>[x]),∀ x∈r,Wh 60 (((M*M:Nat):Rat)*x):=by
  intro r hr;obtain ⟨i,hi⟩:=List.getElem?_of_mem hr;rw[CO,List.getElem?_zipWith]at hi;cases e1:(gM A n)[i]? with
  | none=>rw[e1]at hi;cases hi
  | some u =>
   rw[e1,List.getElem?_map]at hi;cases e2:(gR B n)[i]? with
   | none=>rw[e2]at hi;cases hi
   | some y =>
    rw[e2]at hi;obtain rfl:=Option.some.inj hi;intro x hx;rcases List.mem_append.1 hx with hx|hx
    ·exact (hg u (zM e1) x hx).le (by omega)
    ·obtain rfl:=List.mem_singleton.1 hx
     obtain ⟨p,_,rfl⟩:=List.mem_map.1 (zM e2);have:=(hb p.1).mul (hb p.2)
     rw[show (M:Rat)*bQ B p.1*((M:Rat)*bQ B p.2)=((M*M:Nat):Rat)*(bQ B p.1*bQ B p.2) by rw[Rat.natCast_mul];grind]at this;exact this.le (by omega)
 refine ⟨hA,hB,jl,yh,λ r hr j => ?_,λ r hr => ?_⟩
 ·exact ((tD ay Oh (k:=60) λ x hx=>jn r hr x (List.mem_of_mem_take hx)).1.bt).le (by omega)
 ·obtain ⟨s,hs,rfl⟩:=List.mem_map.1 hr
  intro x hx;obtain ⟨y,hy,rfl⟩:=List.mem_map.1 hx;exact (((tD ay Oh (k:=60) λ x hx=>jn s hs x hx).2 y hy).bt).le (by omega)
theorem Ti (l:List Int) {n:Nat} (hn:n<=3):SM (OI l n).a (OI l n).b n 10:=by
 have g8:=jW l n (by omega);have xp : ∀ r∈(KC l n).a,∀ x∈r,x∈FP l (n*n+2*n+1):=by
  intro r hr x hx;simp only[KC,WG,List.mem_map]at hr;obtain ⟨j,_,rfl⟩:=hr;exact List.mem_of_mem_take (List.mem_of_mem_drop hx)
 have Hs : ∀ x∈(KC l n).b,x∈FP l (n*n+2*n+1):=λ x hx=>List.mem_of_mem_take (List.mem_of_mem_drop hx)
 by_cases h0:n=0
 ·subst h0
  have ha:(OI l 0).a=[]:=List.length_eq_zero_iff.1 g8.la;have hb:(OI l 0).b=[]:=List.length_eq_zero_iff.1 g8.lb;exact ⟨⟨g8.la,g8.lr⟩,g8.lb,g8.ba,g8.bb,λ r hr=>(by cases hr),λ r hr=>(by cases hr)⟩
 refine oU (M:=840*(16*n)) ⟨g8.la,g8.lr⟩ g8.lb g8.ba g8.bb (by omega) (by omega) (vB λ r hr x hx => ?_) λ i => ?_
 ·obtain ⟨s,hs,rfl⟩:=List.mem_map.1 hr
  obtain ⟨y,hy,rfl⟩:=List.mem_map.1 hx;have h1:=sC l _ y (xp s hs y hy);have h2:=Tj (n:=n) (by omega);rw[Rat.natCast_mul,show ((840:Nat):Rat)*((16*n:Nat):Rat)*(y*JX n)=((840:Nat):Rat)*y*(((16*n:Nat):Rat)*JX n) by grind,h2,Rat.mul_one];exact h1.le (by omega)
 ·have h16:Wh 6 (((16*n:Nat):Rat)):=⟨((16*n:Nat):Int),by rw[Rat.intCast_natCast],by rw[Int.natAbs_natCast];show _<=64;omega⟩
  cases e:(OI l n).b[i]? with
  | none =>
   rw[bQ,List.getD_eq_getElem?_getD,e,show ((none:Option Rat).getD 0)=0 from rfl,Rat.mul_zero];exact Wh.zero _
  | some x =>
   have h1:=(sC l _ x (Hs x (zM e))).mul h16;rw[zQ e,Rat.natCast_mul,show ((840:Nat):Rat)*((16*n:Nat):Rat)*x=((840:Nat):Rat)*x*((16*n:Nat):Rat) by grind];exact h1.le (by omega)
theorem Zb (N:ki L):Ev L 336 [] (.bool true):=by
 have A:n9 L:=N.toq9.tocq.ton9;have hO:=VE A.toa9 1 (by omega);have hF:=TF A.toa9 1 2 (by omega) (by omega);have hF2:=TF A.toa9 4 3 (by omega) (by omega);have hF3:=TF A.toa9 1 3 (by omega) (by omega);have hh:=Zw;have k9 : -(Rat.divInt 1 2)≠0:=by decide
 have Kc:D4 (CF 1 [[Rat.divInt 1 2]] 0)=true:=by decide +kernel
 have hG:SM [[Rat.divInt 1 2]] [1] 1 10:=by
  refine oU (M:=2) ⟨rfl,λ r hr=>by obtain rfl:=List.mem_singleton.1 hr;rfl⟩ rfl (λ r hr x hx => ?_) (λ x hx => ?_) (by omega) (by omega) (vB λ r hr x hx => ?_) λ i => ?_
  ·obtain rfl:=List.mem_singleton.1 hr
   obtain rfl:=List.mem_singleton.1 hx;exact hh.le (by omega)
  ·obtain rfl:=List.mem_singleton.1 hx
   exact Bt.one _
  ·obtain rfl:=List.mem_singleton.1 hr
   obtain rfl:=List.mem_singleton.1 hx;exact ⟨1,by decide +kernel,by decide⟩
  ·cases i with
   | zero=>exact ⟨2,by decide +kernel,by decide⟩
   | succ i=>exact ⟨0,by rw[show bQ [1] (i+1)=0 from rfl,Rat.mul_zero];rfl,by decide⟩
 have fc:NS (BD 1 1).length (gM [[Rat.divInt 1 2]] 1):=by
  intro X hX hk j;match X,hX with
  | [x],_ =>
   have h1:=hk (DX [[Rat.divInt 1 2]] 1 (0,0)) (List.mem_singleton.2 rfl);have h2:(Rat.divInt 3 4)*x+0=0:=by
    have ti:gC [[Rat.divInt 1 2]] (0,0) (0,0)*x+0=0:=h1;rwa [show gC [[Rat.divInt 1 2]] (0,0) (0,0)=Rat.divInt 3 4 by decide +kernel]at ti
   have h3:x=0:=by
    have:(Rat.divInt 3 4:Rat)=3/4:=by decide +kernel
    grind
   cases j with
   | zero=>exact h3
   | succ j=>rfl
 have hval : ∀ X:List Rat,JT [[Rat.divInt 1 2]] [1] X 1->R9 ⟨[[Rat.divInt 1 2]],[1],[Rat.divInt 1 2],1⟩ (kM X 1) 1 0=Rat.divInt 4 3/\R9 ⟨[[Rat.divInt 1 2]],[1],[Rat.divInt 1 2],1⟩ (kM X 1) 1 1=Rat.divInt 1 3:=by
  intro X hX;have e12:(Rat.divInt 1 2:Rat)=1/2:=by decide +kernel
  have e43:(Rat.divInt 4 3:Rat)=4/3:=by decide +kernel
  have e13:(Rat.divInt 1 3:Rat)=1/3:=by decide +kernel
  have h1:=hX.eq (by omega) 0 0 (by omega) (by omega);have h2:A0 [[Rat.divInt 1 2]] 0 0=Rat.divInt 1 2:=rfl;have h3:bQ [1] 0=1:=rfl;have h4:bQ [Rat.divInt 1 2] 0=Rat.divInt 1 2:=rfl;simp only[SX,BW,h2,h3]at h1;simp only[R9,QH,BW,KD,h4];rw[e12]at h1 ⊢;rw[e43,e13];generalize A0 (kM X 1) 0 0=k at *;constructor<;>grind
 generalize Rat.divInt 1 2=h at *;have hN:=YI A.too3 hh (by omega);have hA:Bs 4 [1,-h]:=λ x hx=>by
  rcases List.mem_cons.1 hx with rfl|hx
  ·exact Bt.one 4
  ·obtain rfl:=List.mem_singleton.1 hx
   exact hh.ng
 have hB:Bs 4 [(1:Rat)]:=λ x hx=>by
  obtain rfl:=List.mem_singleton.1 hx;exact Bt.one 4
 have tB:O1 [(1:Rat)]=[1]:=by decide
 have tA:O1 [1,-h]=[1,-h]:=by
  show List.take (if -h=0 then _ else 2) [1,-h]=_;rw[if_neg k9];rfl
 have hC:=Yj A true true [1] [1,-h] 1 4 tB tA hB hA (by simp) (by simp) rfl rfl (by omega);have e:FA [1] [1,-h] 1=⟨[[h]],[1],[h],1⟩:=by
  have:FA [1] [1,-h] 1=⟨[[- -h]],[1],[0-1 * -h],1⟩:=rfl
  rw[this,Rat.neg_neg,show 0-1 * -h=h by grind]
 rw[e]at hC;have g8:HM.Ok ⟨[[h]],[1],[h],1⟩ 1 10:=⟨rfl,λ r hr=>by obtain rfl:=List.mem_singleton.1 hr;rfl,rfl,rfl,hG.ba,hG.bb,λ x hx=>by
  obtain rfl:=List.mem_singleton.1 hx;exact hh.le (by omega),Bt.one _⟩
 obtain ⟨v,h1,_,hv⟩:=oV N.toq8 [[h]] [1] 1 hG (by omega) (by omega);rcases hv with ⟨h3|h3,_⟩|⟨_,X,hX,tk,rfl⟩
 ·have:=h3 0 (by omega)
  rw[Kc]at this;cases this
 ·exact absurd fc h3
 obtain ⟨v1,v2⟩:=hval X hX;have hE:=Yk N.tow5 ⟨[[h]],[1],[h],1⟩ 1 g8 (by omega) (by omega) (kM X 1) (VT X 1) (dK tk 1) h1;have hT:=mY N.tow5 ⟨[[h]],[1],[h],1⟩ 1 1 g8 (by omega) (by omega) (by omega) (kM X 1) (VT X 1) (dK tk 1) h1;rw[v1]at hE;rw[v2]at hT;have Ik:Bt 3 (Rat.divInt 4 3):=⟨by decide,by decide⟩;have Ij:Bt 3 (Rat.divInt 1 3):=⟨by decide,by decide⟩;have Ce:=VB A.toa9 Ik Ik (by omega) (by omega);have Dk:=VB A.toa9 Ij Ij (by omega) (by omega);rw[ZN.2 rfl]at Ce Dk;clear v1 v2 hval Ik Ij;generalize Rat.divInt 4 3=x43 at *;generalize Rat.divInt 1 3=x13 at *;refine Ev.x N.KZ rfl rfl ?_;(repeat' ((first|(apply AG<;>intro hc<;>try (exfalso;omega))|refine IL rfl ?_|refine ST rfl rfl ?_|apply AD|refine AE (hO) ?_|refine AE (hF) ?_|refine AE (hF2) ?_|refine AE (hF3) ?_|refine AE (hN) ?_|refine AE (hC) ?_|refine AE (hE) ?_|refine AE (hT) ?_|refine AE (Ce) ?_|refine AE (Dk) ?_)<;>conv=>whnf))
 exact IZ rfl
theorem eA {n:Nat} (hn:n<=3) (T:Nat):n*T<=3*T:=Nat.mul_le_mul_right T hn
theorem Afa {a n:Nat} (ha:a<=3) (hn:n<=3) (T:Nat):a*(n*T+1)<=3*(3*T+1):=Nat.mul_le_mul ha (Nat.succ_le_succ (eA hn T))
theorem zJ {A K:List (List Rat)} {n k l i j:Nat} (hA:Ms k A) (hK:Ms l K) (a:Nat):Bt (n*((k+k+l)+1)) (BW (λ b=>A0 A i a*A0 A j b*A0 K a b) n):=N6 (λ b=>((DE hA i a).mul (DE hA j b)).mul (DE hK a b)) n
theorem Xe (N:ki L) (l:List Int) (size:Int) (q:Bool) (hl : ∀ v∈l,I0 v) (hs:I0 size) :
  Ev L 337 [.sl q (l.map TC),.int .i64 size] (.bool true):=by
 have C:bz L:=N.tobz;have W:v8 L:=C.tocg.tov8;have A:n9 L:=N.toq9.tocq.ton9;have Ex:=Zb N;obtain ⟨g1,g2⟩:=Aha (v:=size) (m:=4) (by omega);have Ou:=nZ W size 4 hs (by omega);generalize F2 size 4=z1 at *;obtain ⟨n,rfl⟩:=Int.eq_ofNat_of_zero_le g1;have hn:n<=3:=by omega
 have yo:=λ q=>Yf C l q n hl (by omega)
 have g8:=jW l n (by omega);have hG:=Ti l hn;generalize OI l n=S at *;have hA:Sq n S.a:=⟨g8.la,g8.lr⟩;obtain ⟨v,h1,h2,hv⟩:=oV N.toq8 S.a S.b n hG (by omega) hn;refine Ev.x N.KY rfl rfl ?_;rcases hv with ⟨_,e,he,rfl⟩|⟨_,X,hX,tk,rfl⟩
 ·(repeat' ((first|(apply AG<;>intro hc<;>try (exfalso;omega))|apply AD|refine AE (Ou) ?_|refine AE (yo _) ?_|refine AE (h1) ?_|refine AE (h2) ?_)<;>conv=>whnf))
  refine AR (l:=([]:List (List Rat))) (enc:=λ r=>[AV.sl false (r.map eQ)]) ?_;(conv=>whnf)
  skip
  refine AR (l:=([]:List (List Rat))) (enc:=λ r=>[AV.sl false (r.map eQ)]) ?_;(conv=>whnf)
  (repeat' ((first|(apply AG<;>intro hc<;>try (exfalso;omega))|refine AE (Ex) ?_)<;>conv=>whnf))
  exact IZ rfl
 ·have kj:=dK tk n
  have Gu:=VT X n;have hEq:=hX.eq hn;have Jj:=λ i j (hi:i<n) (hj:j<n)=>AeJ X hi hj
  generalize kM X n=K at *;have hKl:=Gu.l;(repeat' ((first|(apply AG<;>intro hc<;>try (exfalso;omega))|apply AR|apply AD|refine AE (Ou) ?_|refine AE (yo _) ?_|refine AE (h1) ?_|refine AE (h2) ?_)<;>conv=>whnf))
  refine BR (λ i=>n-i) (λ(i:Nat)=>i<=n) (λ i=>[(11,.int .i64 i)]) (λ_=>[]) [] [] 0 (by (conv=>whnf);exact ⟨rfl,rfl,rfl⟩) (by omega) ?_;intro i p1 ih;by_cases hi:i<n
  ·obtain ⟨r1,w8,ji,jo⟩:=NZ hA hi
   have xm:S.a[((i:Nat):Int).toNat]? = some r1:=w8;obtain ⟨k1,Ky,Al8,Et⟩:=NZ Gu hi;have Al3:K[((i:Nat):Int).toNat]? = some k1:=Ky;have AlE:S.b[((i:Nat):Int).toNat]? = some (bQ S.b i):=I3 g8.lb hi;have Oo:=λ q1 q2=>Yo A.toa9 k1 k1 q1 q2 340000 (kj.at Ky) (kj.at Ky) (by omega) (by omega)
   rw[decide_eq_true (rfl:k1=k1)]at Oo;(repeat' ((first|(apply AG<;>intro hc<;>try (exfalso;omega))|(refine BC (by assumption) ?_ rfl ?_;omega)|apply AD|refine AE (Oo _ _) ?_)<;>conv=>whnf))
   refine BR (λ j=>n-j) (λ(j:Nat)=>j<=n) (λ j=>[(12,.int .i64 j)]) (λ_=>[]) [] [] 0 (by (conv=>whnf);exact ⟨rfl,rfl,rfl⟩) (by omega) ?_;intro j j1 jh;by_cases hj:j<n
   ·obtain ⟨r2,ae,fj,km⟩:=NZ hA hj
    have Fq:S.a[((j:Nat):Int).toNat]? = some r2:=ae;obtain ⟨k2,ia,Al9,Eu⟩:=NZ Gu hj;have Al4:K[((j:Nat):Int).toNat]? = some k2:=ia;have AlG:S.b[((j:Nat):Int).toNat]? = some (bQ S.b j):=I3 g8.lb hj;have Pu:k1[((j:Nat):Int).toNat]? = some (A0 K i j):=Et j hj;have Pv:k2[((i:Nat):Int).toNat]? = some (A0 K j i):=Eu i hi;have Dl:=KP A.toa9 (F7 g8.bb i) (F7 g8.bb j) (by omega) (by omega);have hmb:=(F7 g8.bb i).mul (F7 g8.bb j);have u9:=hEq i j hi hj;rw[SX]at u9;have Dj:=VB A.toa9 (DE kj i j) (DE kj i j) (by omega) (by omega);rw[ZN.2 rfl]at Dj;have Af:Ev L 127 [.agg (eQ (A0 K i j)),.agg (eQ (A0 K j i))] (.int .i64 0):=by rw[<-Jj i j hi hj];exact Dj
    rw[u9]at Dj Af;generalize bQ S.b i*bQ S.b j=p0 at *;(repeat' ((first|(apply AG<;>intro hc<;>try (exfalso;omega))|(refine BC (by assumption) ?_ rfl ?_;omega)|apply AD|refine AE (Dl) ?_)<;>conv=>whnf))
    refine BR (λ a=>n-a) (λ(a:Nat)=>a<=n) (λ a=>[(14,.int .i64 a)]) (λ a=>[(13,13,.bx (eQ (p0+BW (λ a=>BW (λ b=>A0 S.a i a*A0 S.a j b*A0 K a b) n) a)))]) [] [] 0 (by first|exact (by (conv=>whnf);exact ⟨rfl,rfl,rfl⟩)|(rw[show p0+BW (λ a=>BW (λ b=>A0 S.a i a*A0 S.a j b*A0 K a b) n) 0=p0 from Rat.add_zero p0];exact (by (conv=>whnf);exact ⟨rfl,rfl,rfl⟩))) (by omega) ?_;intro a a1 ah;have gk:=hmb.add (N6 (zJ (i:=i) (j:=j) (n:=n) g8.ba kj) a);have hB1:=eA hn (10+10+340000+1);have Ir:=Afa (show a<=3 by omega) hn (10+10+340000+1);by_cases ha:a<n
    ·have hxa:r1[((a:Nat):Int).toNat]? = some (A0 S.a i a):=jo a ha
     obtain ⟨k3,Kz,Ama,Ew⟩:=NZ Gu ha;have Al5:K[((a:Nat):Int).toNat]? = some k3:=Kz;have Bq:p0+BW (λ a=>BW (λ b=>A0 S.a i a*A0 S.a j b*A0 K a b) n) (a+1)=p0+BW (λ a=>BW (λ b=>A0 S.a i a*A0 S.a j b*A0 K a b) n) a+BW (λ b=>A0 S.a i a*A0 S.a j b*A0 K a b) n:=(Rat.add_assoc _ _ _).symm;generalize p0+BW (λ a=>BW (λ b=>A0 S.a i a*A0 S.a j b*A0 K a b) n) a=s0 at *;(repeat' ((first|(apply AG<;>intro hc<;>try (exfalso;omega))|apply AD)<;>conv=>whnf))
     refine BR (λ b=>n-b) (λ(b:Nat)=>b<=n) (λ b=>[(15,.int .i64 b)]) (λ b=>[(13,13,.bx (eQ (s0+BW (λ b=>A0 S.a i a*A0 S.a j b*A0 K a b) b)))]) [] [] 0 (by first|exact (by (conv=>whnf);exact ⟨rfl,rfl,rfl⟩)|(rw[show s0+BW (λ b=>A0 S.a i a*A0 S.a j b*A0 K a b) 0=s0 from Rat.add_zero s0];exact (by (conv=>whnf);exact ⟨rfl,rfl,rfl⟩))) (by omega) ?_;intro b b1 bh;have gl:=gk.add (N6 (λ b=>((DE g8.ba i a).mul (DE g8.ba j b)).mul (DE kj a b)) b);have Nv:=eA (show b<=3 by omega) (10+10+340000+1);by_cases hb:b<n
     ·have Gg:r2[((b:Nat):Int).toNat]? = some (A0 S.a j b):=km b hb
      have Al7:k3[((b:Nat):Int).toNat]? = some (A0 K a b):=Ew b hb;have ay:=KP A.toa9 (DE g8.ba i a) (DE g8.ba j b) (by omega) (by omega);have cr:=KP A.toa9 ((DE g8.ba i a).mul (DE g8.ba j b)) (DE kj a b) (by omega) (by omega);have Ae:=U9 A.toa9 gl (((DE g8.ba i a).mul (DE g8.ba j b)).mul (DE kj a b)) (by omega) (by omega);rw[show s0+BW (λ b=>A0 S.a i a*A0 S.a j b*A0 K a b) b+A0 S.a i a*A0 S.a j b*A0 K a b=s0+BW (λ b=>A0 S.a i a*A0 S.a j b*A0 K a b) (b+1) from Rat.add_assoc _ _ _]at Ae;generalize s0+BW (λ b=>A0 S.a i a*A0 S.a j b*A0 K a b) b=s1 at *;generalize A0 S.a i a*A0 S.a j b*A0 K a b=p2 at *;generalize A0 S.a i a*A0 S.a j b=p1 at *;(repeat' ((first|(apply AG<;>intro hc<;>try (exfalso;omega))|(apply AU;omega)|(refine BC (by assumption) ?_ rfl ?_;omega)|apply AD|refine AE (ay) ?_|refine AE (cr) ?_|refine AE (Ae) ?_)<;>conv=>whnf))
      exact BF [] (bh (b+1) (by omega) (by omega))
     ·have eb:b=n:=by omega
      clear bh;rw[eb,<-Bq];(repeat' ((first|(apply AG<;>intro hc<;>try (exfalso;omega))|(apply AU;omega)|apply AD)<;>conv=>whnf))
      exact BF [] (ah (a+1) (by omega) (by omega))
    ·have ea:a=n:=by omega
     clear ah;rw[ea];generalize p0+BW (λ a=>BW (λ b=>A0 S.a i a*A0 S.a j b*A0 K a b) n) n=sm at *;rw[<-u9]at Dj Af ⊢;(repeat' ((first|(apply AG<;>intro hc<;>try (exfalso;omega))|(apply AU;omega)|(refine BC (by assumption) ?_ rfl ?_;omega)|apply AD|refine AE (Dj) ?_|refine AE (Af) ?_)<;>conv=>whnf))
     exact BF [] (jh (j+1) (by omega) (by omega))
   ·have ej:j=n:=by omega
    clear jh;rw[ej];(repeat' ((first|(apply AG<;>intro hc<;>try (exfalso;omega))|(apply AU;omega)|apply AD)<;>conv=>whnf))
    exact BF [] (ih (i+1) (by omega) (by omega))
  ·have ei:i=n:=by omega
   clear ih;rw[ei];(repeat' ((first|(apply AG<;>intro hc<;>try (exfalso;omega))|apply AD|refine AE (Ex) ?_)<;>conv=>whnf))
   exact IZ rfl
end Go.c5
