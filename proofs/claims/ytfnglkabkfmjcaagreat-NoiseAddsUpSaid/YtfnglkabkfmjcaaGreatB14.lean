/-
  The energy of an impulse response as a form in the states, plain.
-/
import Derived.Test.YtfnglkabkfmjcaaGreatB12
import Derived.Test.YtfnglkabkfmjcaaGreatB11
import Derived.Test.YtfnglkabkfmjcaaGreatB13
import Derived.Test.YtfnglkabkfmjcaaGreatB5
import Derived.Test.YtfnglkabkfmjcaaGreatB4
import Derived.Test.YtfnglkabkfmjcaaGreatB7
import Derived.Test.YtfnglkabkfmjcaaGreatB10
import Derived.Test.YtfnglkabkfmjcaaGreatB1
set_option linter.unusedSimpArgs false
set_option linter.unusedVariables false
set_option linter.unnecessarySimpa false
namespace Go.c9
set_option maxHeartbeats 16000000
def FZ (K:List (List Rat)) (v:List Rat) (n:Nat):Rat:=BF (λ i=>BF (λ j=>A4 K i j*(bQ v i*bQ v j)) n) n
def HC (c:List Rat) (A:List (List Rat)) (n:Nat):List Rat:=(List.range n).map λ j=>BF (λ i=>bQ c i*A4 A i j) n
def GQ (c:List Rat) (A:List (List Rat)) (n:Nat):Nat->List Rat
 | 0=>c
 | k+1=>HC (GQ c A n k) A n
def FD (S:CU) (K:List (List Rat)) (n:Nat):Nat->Rat
 | 0=>S.d*S.d+FZ K S.c n
 | k+1=>FZ K (GQ S.c S.a n k) n
theorem qD (c:List Rat) (A:List (List Rat)) (n:Nat):(HC c A n).length=n:=by simp [HC]
theorem ZC {c:List Rat} {A:List (List Rat)} {n:Nat} (h:c.length=n) : ∀ k,(GQ c A n k).length=n
 | 0=>h
 | k+1=>qD _ _ _
theorem qC (c:List Rat) (A:List (List Rat)) {n j:Nat} (hj:j<n):bQ (HC c A n) j=BF (λ i=>bQ c i*A4 A i j) n:=cV (by rw[HC,List.getElem?_map,List.getElem?_range hj];rfl)
theorem X9 {a b:List Rat} {n:Nat} (ha:a.length=n):A0 a b=BF (λ i=>bQ a i*bQ b i) n:=by
 rw[Z3 a b n (by omega)];rfl
theorem pN (c:Rat) (f:Nat->Rat) (n:Nat):c*BF f n=BF (λ i=>c*f i) n:=(To n).symm
theorem pO (c:Rat) (f:Nat->Rat) (n:Nat):BF f n*c=BF (λ i=>f i*c) n:=by
 rw[Rat.mul_comm,pN];exact JM n λ i _=>Rat.mul_comm _ _
theorem zG {A:List (List Rat)} {v:List Rat} {n i:Nat} (hA:Sq n A) (hi:i<n):bQ (D5 A v) i=BF (λ j=>A4 A i j*bQ v j) n:=by
 obtain ⟨r,hr⟩ : ∃ r,A[i]? = some r:=⟨_,zE (by rw[hA.l];exact hi)⟩;rw[cV (x:=A0 r v) (by rw[D5,List.getElem?_map,hr];rfl),X9 (hA.at hr)];refine JM n λ j _ => ?_
 rw[J5 hr];rfl
theorem Ali {c v:List Rat} {A:List (List Rat)} {n:Nat} (hA:Sq n A) (hc:c.length=n):A0 (HC c A n) v=A0 c (D5 A v):=by
 rw[X9 (qD c A n),X9 hc,JM n (g:=λ j=>BF (λ i=>bQ c i*(A4 A i j*bQ v j)) n) λ j hj=>by
  rw[qC c A hj,pO];exact JM n λ i _=>by grind,Tq]
 refine JM n λ i hi => ?_
 rw[zG hA hi,pN]
theorem Si (A:List (List Rat)) (v:List Rat) : ∀ k,F7 A (D5 A v) k=F7 A v (k+1)
 | 0=>rfl
 | k+1=>by rw[F7,Si A v k];rfl
theorem qF {c:List Rat} {A:List (List Rat)} {n:Nat} (hA:Sq n A) (hc:c.length=n) : ∀ (k:Nat) (v:List Rat),A0 (GQ c A n k) v=A0 c (F7 A v k)
 | 0,_=>rfl
 | k+1,v=>by rw[GQ,Ali hA (ZC hc k),qF hA hc k,Si]
theorem xA {A K:List (List Rat)} {B c:List Rat} {n:Nat} (hn:n<=3) (hB:B.length=n) (hc:c.length=n) (hK : ∀ i j,i<n->j<n->A4 K i j=bQ B i*bQ B j+H6 A K n i j):FZ K c n=A0 c B*A0 c B+FZ K (HC c A n) n:=by
 rw[X9 hc];have h1:FZ K c n=BF (λ i=>BF (λ j=>(bQ B i*bQ B j+H6 A K n i j)*(bQ c i*bQ c j)) n) n:=JM n λ i hi=>JM n λ j hj=>by rw[hK i j hi hj]
 have h2:FZ K (HC c A n) n=BF (λ i=>BF (λ j=>A4 K i j*(BF (λ a=>bQ c a*A4 A a i) n*BF (λ a=>bQ c a*A4 A a j) n)) n) n:=JM n λ i hi=>JM n λ j hj=>by rw[qC c A hi,qC c A hj]
 rw[h1,h2];rcases TN hn with rfl|rfl|rfl|rfl
 ·simp only[BF];grind
 ·simp only[BF,H6];grind
 ·simp only[BF,H6];grind
 ·simp only[BF,H6];grind
theorem Ahy {K:List (List Rat)} {c:List Rat} {n:Nat} (hK:Sq n K) (hc:c.length=n):A0 c (D5 K c)=FZ K c n:=by
 rw[X9 hc,FZ];refine JM n λ i hi => ?_
 rw[zG hK hi,pN];exact JM n λ j _=>by grind
theorem wZ {A K:List (List Rat)} {B c:List Rat} {n:Nat} (hn:n<=3) (hB:B.length=n) (hK : ∀ i j,i<n->j<n->A4 K i j=bQ B i*bQ B j+H6 A K n i j) (hc:c.length=n) : ∀ t,FZ K (GQ c A n t) n<=FZ K c n
 | 0=>Rat.le_refl
 | t+1=>by
  have h1:=wZ hn hB hK hc t;have h2:=xA hn hB (ZC (A:=A) hc t) hK;have h3:=gY (A0 (GQ c A n t) B);rw[GQ];grind
theorem iV (f:Nat->Rat) : ∀ n,C3 (BF f n)<=BF (λ i=>C3 (f i)) n
 | 0=>by simp only[BF];rw[iW];exact Rat.le_refl
 | n+1=>by
  simp only[BF];exact Rat.le_trans (rN _ _) (Rat.add_le_add_right.2 (iV f n))
def VX (K:List (List Rat)) (n:Nat):Rat:=BF (λ i=>BF (λ j=>C3 (A4 K i j)) n) n
theorem Tt (K:List (List Rat)) (n:Nat):0<=VX K n:=pP (λ i=>pP (λ j=>ZN _) n) n
theorem Ahx {K:List (List Rat)} {v:List Rat} {n:Nat} {s:Rat} (hs:0<=s) (hv : ∀ j,j<n->C3 (bQ v j)<=s):C3 (FZ K v n)<=VX K n*(s*s):=by
 refine Rat.le_trans (iV _ n) ?_;rw[VX,pO];refine pM n λ i hi => ?_
 refine Rat.le_trans (iV _ n) ?_;rw[pO];refine pM n λ j hj => ?_
 rw[cT,cT];refine Rat.mul_le_mul_of_nonneg_left ?_ (ZN _);exact Rat.le_trans (Rat.mul_le_mul_of_nonneg_right (hv i hi) (ZN _)) (Rat.mul_le_mul_of_nonneg_left (hv j hj) hs)
theorem xG {n:Nat} {a:List (List Rat)} {b:List Rat} (ha:Sq n a) (hb:b.length=n) {i:Nat} (hc:DJ (B6 n a i)=true) : ∀ m,TD a b (2^i*m)<=(1/2)^m*TD a b 0
 | 0=>by rw[Nat.mul_zero,Rat.pow_zero,Rat.one_mul];exact Rat.le_refl
 | m+1=>by
  have h1:=AhK ha hb hc (2^i*m);have h2:=xG ha hb hc m;rw[Nat.mul_succ,Nat.add_comm,Rat.pow_succ];have h3:(1/2:Rat)*TD a b (2^i*m)<=(1/2)*((1/2)^m*TD a b 0):=Rat.mul_le_mul_of_nonneg_left h2 (by grind);grind
theorem Ald (n j:Nat):WT (E5 n (j:Int))<=1:=xK (by decide) λ x hx=>by
 obtain ⟨i,_,rfl⟩:=List.mem_map.1 hx;split<;>decide
theorem AfK {v:List Rat} {n j:Nat} (hv:v.length=n) (hj:j<n):A0 v (E5 n (j:Int))=bQ v j:=by
 rw[IW];exact dU hv hj
theorem aJ : ∀ m:Nat,(0:Rat)<=(1/2)^m
 | 0=>by rw[Rat.pow_zero];decide
 | m+1=>by rw[Rat.pow_succ];exact Rat.mul_nonneg (aJ m) (by grind)
theorem Alj {c:List Rat} {A:List (List Rat)} {n i:Nat} (hA:Sq n A) (hc:c.length=n) (hi:DJ (B6 n A i)=true) (m:Nat) : ∀ j,j<n->C3 (bQ (GQ c A n (2^i*m)) j)<=BL c*(1/2)^m:=by
 intro j hj;have je:(E5 n (j:Int)).length=n:=iC n _;rw[<-AfK (ZC hc _) hj,qF hA hc];have h1:C3 (A0 c (F7 A (E5 n (j:Int)) (2^i*m)))<=BL c*TD A (E5 n (j:Int)) (2^i*m):=kL c _ _ (eK _) λ_ hx=>xJ hx
 have h2:=xG hA je hi m;have h3:(1/2:Rat)^m*TD A (E5 n (j:Int)) 0<=(1/2)^m*1:=Rat.mul_le_mul_of_nonneg_left (Ald n j) (aJ m);rw[Rat.mul_one]at h3;exact Rat.le_trans h1 (Rat.mul_le_mul_of_nonneg_left (Rat.le_trans h2 h3) (gP c))
theorem nP : ∀ m:Nat,(1/2:Rat)^m*((m:Rat)+1)<=1
 | 0=>by rw[Rat.pow_zero,show ((0:Nat):Rat)=0 from rfl];grind
 | m+1=>by
  have h1:=nP m;have h2:=aJ m;have h3:(0:Rat)<=(m:Rat):=Rat.natCast_nonneg;rw[Rat.pow_succ,Rat.natCast_add];have h4:=Rat.mul_nonneg h2 h3;have e:((1:Nat):Rat)=1:=rfl;rw[e];grind
theorem AiX {x G:Rat} (hG:0<=G) (h : ∀ m:Nat,-(G*(1/2)^m)<=x):0<=x:=by
 rcases (Rat.le_total:0<=x\/x<=0) with h0|h0
 ·exact h0
 by_cases hx:x=0
 ·rw[hx];exact Rat.le_refl
 have Jn:0 < -x:=by grind
 exfalso;obtain ⟨m,hm⟩ : ∃ m:Nat,G/(-x)<(m:Rat)+1:=by
  refine ⟨(G/(-x)).floor.toNat,?_⟩;have h1:=Rat.lt_floor_add_one (G/(-x));have h2:(G/(-x)).floor<=((G/(-x)).floor.toNat:Int):=Int.self_le_toNat _;have h3:(((G/(-x)).floor+1:Int):Rat)<=((((G/(-x)).floor.toNat:Int)+1:Int):Rat):=Rat.intCast_le_intCast.2 (by omega);have h4:G/(-x)<((((G/(-x)).floor.toNat:Int)+1:Int):Rat):=by grind
  rw[Rat.intCast_add,Rat.intCast_natCast]at h4;exact h4
 have h1:G<((m:Rat)+1)*(-x):=by
  have:=Rat.mul_lt_mul_of_pos_right hm Jn
  rwa [Rat.div_mul_cancel (by grind)]at this
 have h2:=h m;have h3:=nP m;have h4:=aJ m;have h5:(1/2:Rat)^m*((m:Rat)+1)*(-x)<=1*(-x):=Rat.mul_le_mul_of_nonneg_right h3 (by grind);by_cases hz:(1/2:Rat)^m=0
 ·rw[hz]at h2;grind
 have h6:0<(1/2:Rat)^m:=by
  rcases Rat.le_iff_lt_or_eq.1 h4 with h|h
  ·exact h
  ·exact absurd h.symm hz
 have h7:=Rat.mul_lt_mul_of_pos_left h1 h6;grind
theorem Ahz {A K:List (List Rat)} {B c:List Rat} {n i:Nat} (hn:n<=3) (hA:Sq n A) (hB:B.length=n) (hc:c.length=n) (hi:DJ (B6 n A i)=true) (hK : ∀ i j,i<n->j<n->A4 K i j=bQ B i*bQ B j+H6 A K n i j):0<=FZ K c n:=by
 refine AiX (G:=VX K n*(BL c*BL c)) (Rat.mul_nonneg (Tt K n) (gY _)) λ m => ?_
 have h1:=wZ hn hB hK hc (2^i*m);have hs:=Alj hA hc hi m;have h2:=aJ m;have h3:=Ahx (K:=K) (Rat.mul_nonneg (gP c) h2) hs;have h4:(1/2:Rat)^m<=1:=by
  have:=nP m
  have h3:(0:Rat)<=(m:Rat):=Rat.natCast_nonneg;have h4:=Rat.mul_nonneg h2 h3;grind
 have h5 : -C3 (FZ K (GQ c A n (2^i*m)) n)<=FZ K (GQ c A n (2^i*m)) n:=by
  rw[T3];split<;>grind
 have h6:VX K n*(BL c*(1/2)^m*(BL c*(1/2)^m))<=VX K n*(BL c*BL c)*(1/2)^m:=by
  have e:VX K n*(BL c*(1/2)^m*(BL c*(1/2)^m))=VX K n*(BL c*BL c)*(1/2)^m*(1/2)^m:=by grind
  rw[e];have:=Rat.mul_le_mul_of_nonneg_left h4 (Rat.mul_nonneg (Rat.mul_nonneg (Tt K n) (gY (BL c))) h2)
  rwa [Rat.mul_one]at this
 grind
theorem Sl (S:CU) : ∀ j,wQ S j=F7 S.a S.b j
 | 0=>rfl
 | j+1=>by rw[wQ,F7,Sl S j]
theorem Tu {S:CU} {K:List (List Rat)} {n:Nat} (hn:n<=3) (hA:Sq n S.a) (hB:S.b.length=n) (hC:S.c.length=n) (hK : ∀ i j,i<n->j<n->A4 K i j=bQ S.b i*bQ S.b j+H6 S.a K n i j) : ∀ k,FD S K n k=hQ S k*hQ S k+FD S K n (k+1)
 | 0=>rfl
 | k+1=>by
  rw[FD,xA hn hB (ZC (A:=S.a) hC k) hK,hQ,Sl,qF hA hC];rfl
theorem Tv {S:CU} {K:List (List Rat)} {n:Nat} (hn:n<=3) (hA:Sq n S.a) (hB:S.b.length=n) (hC:S.c.length=n) (hK : ∀ i j,i<n->j<n->A4 K i j=bQ S.b i*bQ S.b j+H6 S.a K n i j) : ∀ k,BF (λ j=>hQ S j*hQ S j) k+FD S K n k=FD S K n 0
 | 0=>by rw[BF,Rat.zero_add]
 | k+1=>by
  have h1:=Tv hn hA hB hC hK k;have h2:=Tu hn hA hB hC hK k;rw[BF];grind
theorem Ak5 {S:CU} {K:List (List Rat)} {n i:Nat} (hn:n<=3) (hA:Sq n S.a) (hB:S.b.length=n) (hC:S.c.length=n) (hi:DJ (B6 n S.a i)=true) (hK : ∀ i j,i<n->j<n->A4 K i j=bQ S.b i*bQ S.b j+H6 S.a K n i j) (k:Nat):0<=FD S K n (k+1):=Ahz hn hA hB (ZC hC k) hi hK
theorem Ak4 {S:CU} {K:List (List Rat)} {n:Nat} (hn:n<=3) (hA:Sq n S.a) (hB:S.b.length=n) (hC:S.c.length=n) (hK : ∀ i j,i<n->j<n->A4 K i j=bQ S.b i*bQ S.b j+H6 S.a K n i j) (k:Nat):FD S K n (k+1)<=FD S K n k:=by
 have h1:=Tu hn hA hB hC hK k;have h2:=gY (hQ S k);grind
theorem AkS {S:CU} {n m:Nat} (h:S.a.length=S.b.length):A0 (S.outs (List.replicate n 0) (GG m)) (S.outs (List.replicate n 0) (GG m))=BF (λ j=>hQ S j*hQ S j) m:=by
 rw[X9 (n:=m) (by rw[fP,aK])];refine JM m λ j hj => ?_
 rw[cV (xR h hj)]
theorem OS {k:Nat} {f:Nat->Rat} (h : ∀ j,Bt k (f j)) : ∀ m,Bt (m*(k+1)) (BF f m)
 | 0=>Bt.zero _
 | m+1=>by
  rw[BF];exact ((OS h m).add (h m)).le (by rw[Nat.succ_mul];omega)
theorem GK {k:Nat} {v:List Rat} (h:Bs k v) (i:Nat):Bt k (bQ v i):=Bs.getD h i
theorem Alh {k l:Nat} {c:List Rat} {A:List (List Rat)} (hc:Bs k c) (hA:Ms l A) (n:Nat):Bs (n*(k+l+1)) (HC c A n):=λ x hx=>by
 obtain ⟨j,_,rfl⟩:=List.mem_map.1 hx;exact OS (λ i=>(GK hc i).mul (E3 hA i j)) n
def V0 (k l:Nat):Nat->Nat
 | 0=>k
 | t+1=>3*(V0 k l t+l+1)
theorem qE {k l n:Nat} {c:List Rat} {A:List (List Rat)} (hc:Bs k c) (hA:Ms l A) (hn:n<=3) : ∀ t,Bs (V0 k l t) (GQ c A n t)
 | 0=>hc
 | t+1=>(Alh (qE hc hA hn t) hA n).le (Nat.mul_le_mul_right _ hn)
theorem Sf {k k' l l':Nat} (h:k<=k') (h':l<=l') : ∀ t,V0 k l t<=V0 k' l' t
 | 0=>h
 | t+1=>by
  have:=Sf h h' t
  rw[V0,V0];omega
theorem Se {k t:Nat} (hk:k<=40) (h:t<=6):V0 k k t<=100000:=by
 have : ∀ t,t<7->V0 40 40 t<=100000:=by decide
 exact Nat.le_trans (Sf hk hk t) (this t (by omega))
end Go.c9
namespace Go.c9
open F
attribute [local irreducible] AA AF AP AD CI AY AW A6 A5 B2 AM BQ B8 C8 BM A1 BR B9 AB A7 AJ pw BO BH CH CK CS CP CD BT CJ
variable {L:Lib}
set_option maxHeartbeats 16000000
set_option maxRecDepth 8000
theorem vT (N:l8 L) (S:CU) (n k:Nat) (h:S.Ok n k) (hn:n<=8):Ev L 328 [.agg (eS S)] (.bool true):=by
 have Br:=kW N.too6 S n k h (by omega);have Eb:=h.la;refine Ev.x N.QE rfl rfl ?_;(repeat' ((first|(apply AG<;>intro hc<;>try (exfalso;omega))|apply AR|apply AE|refine AC (Br) ?_)<;>conv=>whnf))
 exact IJ rfl
theorem wG (N:l8 L) (S:CU) (n k:Nat) (h:S.Ok n k) (hn:n<=8):Ev L 333 [.agg (eS S)] (.bool true):=by
 have Br:=Agl N.too6 S n k h (by omega);have Eb:=h.la;refine Ev.x N.SD rfl rfl ?_;(repeat' ((first|(apply AG<;>intro hc<;>try (exfalso;omega))|apply AR|apply AE|refine AC (Br) ?_)<;>conv=>whnf))
 exact IJ rfl
theorem vK (N:l8 L) (q1 q2 q3:Bool) (K:List (List Rat)) (v:List Rat) (n k l:Nat) (hK:Sq n K) (hv:v.length=n) (lg:Ms k K) (nu:Bs l v) (hn:n<=3) (hk:k<=1000000000) (hl:l<=1000000000) :
  Ev L 329 [.sl q1 (CN q2 K),.sl q3 (v.map eQ)] (.agg (eQ (FZ K v n))):=by
 have hO:=HS N.toa6 0 (by omega);rw[show ((0:Int):Rat)=0 from rfl]at hO;have ag:=hK.l;have jd : ∀ i,Bt (n*((k+(l+l))+1)) (BF (λ j=>A4 K i j*(bQ v i*bQ v j)) n):=λ i=>OS (λ j=>(E3 lg i j).mul ((GK nu i).mul (GK nu j))) n
 have hB1:n*((k+(l+l))+1)<=3*((k+(l+l))+1):=Nat.mul_le_mul_right _ hn;refine Ev.x N.QA rfl rfl ?_;(repeat' ((first|apply AR|apply AE|refine AC (hO) ?_)<;>conv=>whnf))
 refine BP (λ i=>n-i) (λ(i:Nat)=>i<=n) (λ i=>[(11,.int .i64 i)]) (λ i=>[(5,5,.bx (eQ (BF (λ i=>BF (λ j=>A4 K i j*(bQ v i*bQ v j)) n) i)))]) [] [] 0 (by (conv=>whnf);exact ⟨rfl,rfl,rfl⟩) (by omega) ?_;intro i p1 ih;have Vs:=OS jd i;have Uk:i*(n*((k+(l+l))+1)+1)<=3*(3*((k+(l+l))+1)+1):=Nat.mul_le_mul (by omega) (by omega);by_cases hi:i<n
 ·obtain ⟨r1,ak,kj,nh⟩:=Y4 hK hi
  have Cy:K[((i:Nat):Int).toNat]? = some r1:=ak;have Oj:v[((i:Nat):Int).toNat]? = some (bQ v i):=OX hv hi;have Oa:BF (λ i=>BF (λ j=>A4 K i j*(bQ v i*bQ v j)) n) (i+1)=BF (λ i=>BF (λ j=>A4 K i j*(bQ v i*bQ v j)) n) i+BF (λ j=>A4 K i j*(bQ v i*bQ v j)) n:=rfl;generalize BF (λ i=>BF (λ j=>A4 K i j*(bQ v i*bQ v j)) n) i=s0 at *;(repeat' ((first|(apply AG<;>intro hc<;>try (exfalso;omega))|apply AR|(refine BA (by assumption) ?_ rfl ?_;omega)|apply AE)<;>conv=>whnf))
  refine BP (λ j=>n-j) (λ(j:Nat)=>j<=n) (λ j=>[(19,.int .i64 j)]) (λ j=>[(5,5,.bx (eQ (s0+BF (λ j=>A4 K i j*(bQ v i*bQ v j)) j)))]) [] [] 0 (by first|exact (by (conv=>whnf);exact ⟨rfl,rfl,rfl⟩)|(rw[show s0+BF (λ j=>A4 K i j*(bQ v i*bQ v j)) 0=s0 from Rat.add_zero s0];exact (by (conv=>whnf);exact ⟨rfl,rfl,rfl⟩))) (by omega) ?_;intro j j1 jh;have Ap:=Vs.add (OS (λ j=>(E3 lg i j).mul ((GK nu i).mul (GK nu j))) j);have hB3:j*((k+(l+l))+1)<=3*((k+(l+l))+1):=Nat.mul_le_mul_right _ (by omega);by_cases hj:j<n
  ·have fb:r1[((j:Nat):Int).toNat]? = some (A4 K i j):=nh j hj
   have hvj:v[((j:Nat):Int).toNat]? = some (bQ v j):=OX hv hj;have ck:=GD N.toa6 (GK nu i) (GK nu j) (by omega) (by omega);have dj:=GD N.toa6 (E3 lg i j) ((GK nu i).mul (GK nu j)) (by omega) (by omega);have hA:=O4 N.toa6 Ap ((E3 lg i j).mul ((GK nu i).mul (GK nu j))) (by omega) (by omega);have Hm:s0+BF (λ j=>A4 K i j*(bQ v i*bQ v j)) j+A4 K i j*(bQ v i*bQ v j)=s0+BF (λ j=>A4 K i j*(bQ v i*bQ v j)) (j+1):=Rat.add_assoc _ _ _;rw[Hm]at hA;generalize s0+BF (λ j=>A4 K i j*(bQ v i*bQ v j)) j=s1 at *;generalize A4 K i j*(bQ v i*bQ v j)=p2 at *;generalize bQ v i*bQ v j=p3 at *;(repeat' ((first|(apply AG<;>intro hc<;>try (exfalso;omega))|(apply AU;omega)|(refine BA (by assumption) ?_ rfl ?_;omega)|apply AE|refine AC (ck) ?_|refine AC (dj) ?_|refine AC (hA) ?_)<;>conv=>whnf))
   exact BG [] (jh (j+1) (by omega) (by omega))
  ·have ej:j=n:=by omega
   clear jh;rw[ej,<-Oa];(repeat' ((first|(apply AG<;>intro hc<;>try (exfalso;omega))|(apply AU;omega)|apply AE)<;>conv=>whnf))
   exact BG [] (ih (i+1) (by omega) (by omega))
 ·have ei:i=n:=by omega
  clear ih;rw[ei,show BF (λ i=>BF (λ j=>A4 K i j*(bQ v i*bQ v j)) n) n=FZ K v n from rfl];generalize FZ K v n=y at *;(repeat' ((first|(apply AG<;>intro hc<;>try (exfalso;omega))|apply AE)<;>conv=>whnf))
  exact AX rfl (DI _)
theorem Agn (N:l8 L) (q1 q2 q3:Bool) (c:List Rat) (A:List (List Rat)) (n k l:Nat) (hA:Sq n A) (n7:c.length=n) (ke:Ms k A) (qa:Bs l c) (hn:n<=3) (hk:k<=1000000000) (hl:l<=1000000000) :
  Ev L 330 [.sl q1 (c.map eQ),.sl q2 (CN q3 A)] (.sl false ((HC c A n).map eQ)):=by
 have hO:=HS N.toa6 0 (by omega);rw[show ((0:Int):Rat)=0 from rfl]at hO;have ag:=hA.l;have iw:=qD c A n;refine Ev.x N.P9 rfl rfl ?_;(repeat' ((first|apply AR|apply AE)<;>conv=>whnf))
 refine EJ (enc:=eO) none n rfl (by omega) (by omega) ?_;(conv=>whnf)
 skip
 refine BP (λ i=>n-i) (λ(i:Nat)=>i<=n) (λ i=>[(14,.int .i64 i)]) (λ i=>[(11,11,.rw 3 ((ED ((HC c A n).take i) n).map eO))]) [] [] 0 (by first|exact (by (conv=>whnf);exact ⟨rfl,rfl,rfl⟩)|(rw[List.take_zero,<-OG];exact (by (conv=>whnf);exact ⟨rfl,rfl,rfl⟩))) (by omega) ?_;intro i p1 ih;have bm:((HC c A n).take i).length=i:=by rw[List.length_take];omega
 have Ja:=J9 (l:=(HC c A n).take i) (m:=n) (by omega);by_cases hi:i<n
 ·have hyx:(HC c A n)[i]? = some (BF (λ a=>bQ c a*A4 A a i) n):=by rw[HC,List.getElem?_map,List.getElem?_range hi];rfl
  have k6:=OH (l:=(HC c A n).take i) (m:=n) (x:=BF (λ a=>bQ c a*A4 A a i) n) (by omega);rw[bm,<-UY hyx]at k6;generalize ED ((HC c A n).take i) n=F0 at *;(repeat' ((first|(apply AG<;>intro hc<;>try (exfalso;omega))|apply AR|apply AE|refine AC (hO) ?_)<;>conv=>whnf))
  refine BP (λ j=>n-j) (λ(j:Nat)=>j<=n) (λ j=>[(20,.int .i64 j)]) (λ j=>[(7,7,.bx (eQ (BF (λ a=>bQ c a*A4 A a i) j)))]) [] [] 0 (by (conv=>whnf);exact ⟨rfl,rfl,rfl⟩) (by omega) ?_;intro j j1 jh;have Ap:=OS (λ a=>(GK qa a).mul (E3 ke a i)) j;have hB3:j*(l+k+1)<=3*(l+k+1):=Nat.mul_le_mul_right _ (by omega);by_cases hj:j<n
  ·obtain ⟨r1,ak,kj,nh⟩:=Y4 hA hj
   have Cy:A[((j:Nat):Int).toNat]? = some r1:=ak;have fb:r1[((i:Nat):Int).toNat]? = some (A4 A j i):=nh i hi;have yq:c[((j:Nat):Int).toNat]? = some (bQ c j):=OX n7 hj;have ck:=GD N.toa6 (GK qa j) (E3 ke j i) (by omega) (by omega);have yh:=O4 N.toa6 Ap ((GK qa j).mul (E3 ke j i)) (by omega) (by omega);rw[show BF (λ a=>bQ c a*A4 A a i) j+bQ c j*A4 A j i=BF (λ a=>bQ c a*A4 A a i) (j+1) from rfl]at yh;generalize BF (λ a=>bQ c a*A4 A a i) j=s1 at *;generalize bQ c j*A4 A j i=p2 at *;(repeat' ((first|(apply AG<;>intro hc<;>try (exfalso;omega))|(apply AU;omega)|(refine BA (by assumption) ?_ rfl ?_;omega)|apply AE|refine AC (ck) ?_|refine AC (yh) ?_)<;>conv=>whnf))
   exact BG [] (jh (j+1) (by omega) (by omega))
  ·have ej:j=n:=by omega
   clear jh;rw[ej];generalize BF (λ a=>bQ c a*A4 A a i) n=y at *;(repeat' ((first|(apply AG<;>intro hc<;>try (exfalso;omega))|(apply AZ;omega)|apply AE)<;>conv=>whnf))
   refine FF (enc:=eO) (some y) rfl (λ e=>by cases e<;>rfl) (by omega) ?_;(conv=>whnf)
   rw[k6];(repeat' ((first|(apply AU;omega)|fail)<;>conv=>whnf))
   exact BG [] (ih (i+1) (by omega) (by omega))
 ·have ei:i=n:=by omega
  clear ih;rw[ei,List.take_of_length_le (by omega),OE iw];(repeat' ((first|(apply AG<;>intro hc<;>try (exfalso;omega))|apply AE)<;>conv=>whnf))
  refine C9 (enc:=eQ) (λ_=>rfl) rfl (by omega) ?_;(conv=>whnf)
  refine AX rfl ?_;simp only[A3];exact ⟨trivial,HO _⟩
theorem Aj1 {k m:Nat} (hk:k<=82) (hm:m<=6):E0 k m<=340000:=by
 rcases (show m=0\/m=1\/m=2\/m=3\/m=4\/m=5\/m=6 by omega) with rfl|rfl|rfl|rfl|rfl|rfl|rfl<;>simp only[E0]<;>omega
def qW (A:List (List Rat)) (B:List Rat) (n:Nat) (v:AV):Prop :=
 (((∀ j,j<=6->DJ (B6 n A j)=false) \/ ¬ NS (BC n n).length (gM A n)) /\ ∃ e:Int,e≠0/\v = .j5 [.sl false [],.int .i64 e])\/((∃ i,DJ (B6 n A i)=true) /\ ∃ X:List Rat,NY A B X n/\Bs 340000 X/\v = .j5 [.sl false (eM (kM X n)),.int .i64 0])
theorem xI (N:v7 L) (A:List (List Rat)) (B:List Rat) (n:Nat) {k:Nat} (h:V4 A B n k) (hk:k<=20) (hn:n<=3) :
  ∃ v,Ev L 324 [.sl false (CN false A),.sl false (B.map eQ)] v/\Ev L 326 [.sl false (CN false A),.sl false (B.map eQ)] v/\qW A B n v:=by
 obtain ⟨v,h1,o1⟩:=Agf N A B n k h (by omega) hn false false false;obtain ⟨w,h2,o2⟩:=Ahb N A B n k h.sq h.lb h.ba h.bb hk hn false false false;rcases o1 with ⟨c1,rfl⟩|⟨⟨i,i1,i2⟩,o1⟩
 ·rcases o2 with ⟨_,rfl⟩|⟨⟨j,j1,j2⟩,_⟩
  ·exact ⟨_,h1,h2,Or.inl ⟨Or.inl c1,14,by decide,rfl⟩⟩
  ·have:=c1 j j1
   rw[j2.1]at this;cases this
 ·rcases o2 with ⟨c2,_⟩|⟨_,o2⟩
  ·have:=c2 i i1
   rw[i2.1]at this;cases this
  ·rcases o1 with ⟨n1,rfl⟩|⟨n1,X,g1,rfl⟩
   ·rcases o2 with ⟨_,rfl⟩|⟨n2,_⟩
    ·exact ⟨_,h1,h2,Or.inl ⟨Or.inr n1,11,by decide,rfl⟩⟩
    ·exact absurd n2 n1
   ·rcases o2 with ⟨n2,_⟩|⟨n2,Y,g2,hY,rfl⟩
    ·exact absurd n1 n2
    ·obtain rfl:=g1.uniq g2 n1
     exact ⟨_,h1,h2,Or.inr ⟨⟨i,i2.1⟩,X,g1,hY.le (Aj1 (by omega) (fW hn)),rfl⟩⟩
theorem kX (N:l8 L) (S:CU) (n m:Nat) {k:Nat} (hS:S.Ok n k) (hk:k<=40) (hn:n<=3) (hm:m<=6) (e:Int) (he:e≠0) (hv:Ev L 324 [.sl false (CN false S.a),.sl false (S.b.map eQ)] (.j5 [.sl false [],.int .i64 e])) :
  Ev L 331 [.agg (eS S),.int .i64 (m:Int)] (.j5 [.agg [.bool false,.sl false [],.sl false []],.int .i64 e]):=by
 have Af:=vT N S n k hS (by omega);refine Ev.x N.IY rfl rfl ?_;(repeat' ((first|(apply AG<;>intro hc<;>try (exfalso;omega))|apply AE|refine AC (Af) ?_|refine AC (hv) ?_)<;>conv=>whnf))
 exact AX rfl (by simp [A3,CG,FP])
theorem dX (N:l8 L) (S:CU) (n m:Nat) {k:Nat} (hS:S.Ok n k) (hk:k<=40) (hn:n<=3) (hm:m<=6) {kk:Nat} (K:List (List Rat)) (hK:Sq n K) (lg:Ms kk K) (fq:kk<=4000000) (hv:Ev L 324 [.sl false (CN false S.a),.sl false (S.b.map eQ)] (.j5 [.sl false (eM K),.int .i64 0])) :
  Ev L 331 [.agg (eS S),.int .i64 (m:Int)] (.j5 [.agg (eQ (FD S K n m)),.int .i64 0]):=by
 have Af:=vT N S n k hS (by omega);have hA:Sq n S.a:=⟨hS.la,hS.lr⟩;cases m with
 | zero =>
  have hF:=λ q1 q2 q3=>vK N q1 q2 q3 K S.c n kk k hK hS.lc lg hS.bc hn (by omega) (by omega)
  have hM:=GD N.toa6 hS.bd hS.bd (by omega) (by omega);have xn:Bt (3*(3*(kk+(k+k)+1)+1)) (FZ K S.c n):=(OS (λ i=>(OS (λ j=>(E3 lg i j).mul ((GK hS.bc i).mul (GK hS.bc j))) n).le (Nat.mul_le_mul_right _ hn)) n).le (Nat.mul_le_mul_right _ hn);have yh:=O4 N.toa6 (hS.bd.mul hS.bd) xn (by omega) (by omega);refine Ev.x N.IY rfl rfl ?_;(repeat' ((first|(apply AG<;>intro hc<;>try (exfalso;omega))|apply AE|refine AC (Af) ?_|refine AC (hv) ?_|refine AC (hM) ?_|refine AC (hF _ _ _) ?_|refine AC (yh) ?_)<;>conv=>whnf))
  exact AX rfl (by simp only[A3,CG,and_true,true_and];exact ⟨CM _,CM _⟩)
 | succ m =>
  refine Ev.x N.IY rfl rfl ?_;(repeat' ((first|(apply AG<;>intro hc<;>try (exfalso;omega))|(apply B7;omega)|apply AE|refine AC (Af) ?_|refine AC (hv) ?_)<;>conv=>whnf))
  refine BP (λ t=>m-t) (λ(t:Nat)=>t<=m) (λ t=>[(48,.int .i64 t),(8,.sl false ((GQ S.c S.a n t).map eQ))]) (λ_=>[]) [] [] 0 (by (conv=>whnf);exact ⟨rfl,rfl,rfl⟩) (by omega) ?_;intro t p1 ih;have hb:=(qE hS.bc hS.ba hn t).le (Se hk (show t<=6 by omega));have hl:=ZC (A:=S.a) hS.lc t;by_cases ht:t<m
  ·have Ul:=λ q1 q2 q3=>Agn N q1 q2 q3 (GQ S.c S.a n t) S.a n k 100000 hA hl hS.ba hb hn (by omega) (by omega)
   rw[show HC (GQ S.c S.a n t) S.a n=GQ S.c S.a n (t+1) from rfl]at Ul;(repeat' ((first|(apply AG<;>intro hc<;>try (exfalso;omega))|(apply AU;omega)|apply AE|refine AC (Ul _ _ _) ?_)<;>conv=>whnf))
   exact BG [] (ih (t+1) (by omega) (by omega))
  ·have et:t=m:=by omega
   clear ih;rw[et]at hb hl ⊢;have hF:=λ q1 q2 q3=>vK N q1 q2 q3 K (GQ S.c S.a n m) n kk 100000 hK hl lg hb hn (by omega) (by omega)
   rw[show FZ K (GQ S.c S.a n m) n=FD S K n (m+1) from rfl]at hF;generalize FD S K n (m+1)=y at *;generalize GQ S.c S.a n m=c0 at *;(repeat' ((first|(apply AG<;>intro hc<;>try (exfalso;omega))|apply AE|refine AC (hF _ _ _) ?_)<;>conv=>whnf))
   exact AX rfl (by simp only[A3,CG,and_true,true_and];exact ⟨CM _,CM _⟩)
theorem Age (N:l8 L) (S:CU) (n:Nat) {k:Nat} (hS:S.Ok n k) (hk:k<=40) (hn:n<=3) (e:Int) (he:e≠0) (hv:Ev L 324 [.sl false (CN false S.a),.sl false (S.b.map eQ)] (.j5 [.sl false [],.int .i64 e])) :
  Ev L 332 [.agg (eS S)] (.j5 [.agg [.bool false,.sl false [],.sl false []],.int .i64 e]):=by
 have hT:=kX N S n 0 hS hk hn (by omega) e he hv;refine Ev.x N.KC rfl rfl ?_;(repeat' ((first|apply AE|refine AC (hT) ?_)<;>conv=>whnf))
 exact AX rfl (by simp [A3,CG,FP])
theorem vF (N:l8 L) (S:CU) (n:Nat) {k:Nat} (hS:S.Ok n k) (hk:k<=40) (hn:n<=3) {kk:Nat} (K:List (List Rat)) (hK:Sq n K) (lg:Ms kk K) (fq:kk<=4000000) (hv:Ev L 324 [.sl false (CN false S.a),.sl false (S.b.map eQ)] (.j5 [.sl false (eM K),.int .i64 0])) :
  Ev L 332 [.agg (eS S)] (.j5 [.agg (eQ (FD S K n 0)),.int .i64 0]):=by
 have hT:=dX N S n 0 hS hk hn (by omega) K hK lg fq hv;refine Ev.x N.KC rfl rfl ?_;(repeat' ((first|apply AE|refine AC (hT) ?_)<;>conv=>whnf))
 exact AX rfl (by simp only[A3,CG,and_true,true_and];exact ⟨CM _,CM _⟩)
theorem Aha (N:l8 L) (S:CU) (n:Nat) {k:Nat} (hS:S.Ok n k) (hk:k<=40) (hn:n<=3) (e:Int) (he:e≠0) (hv:Ev L 326 [.sl false (CN false S.a),.sl false (S.b.map eQ)] (.j5 [.sl false [],.int .i64 e])) :
  Ev L 334 [.agg (eS S)] (.j5 [.agg [.bool false,.sl false [],.sl false []],.int .i64 e]):=by
 have Af:=wG N S n k hS (by omega);refine Ev.x N.KQ rfl rfl ?_;(repeat' ((first|(apply AG<;>intro hc<;>try (exfalso;omega))|apply AE|refine AC (Af) ?_|refine AC (hv) ?_)<;>conv=>whnf))
 exact AX rfl (by simp [A3,CG,FP])
theorem Ag9 (N:l8 L) (S:CU) (n:Nat) {k:Nat} (hS:S.Ok n k) (hk:k<=40) (hn:n<=3) {kk:Nat} (K:List (List Rat)) (hK:Sq n K) (lg:Ms kk K) (fq:kk<=4000000) (hv:Ev L 326 [.sl false (CN false S.a),.sl false (S.b.map eQ)] (.j5 [.sl false (eM K),.int .i64 0])) :
  Ev L 334 [.agg (eS S)] (.j5 [.agg (eQ (FD S K n 0)),.int .i64 0]):=by
 have Af:=wG N S n k hS (by omega);have iw:(D5 K S.c).length=n:=by rw[mY,hK.l]
 have hT:=λ q1 q2 q3=>Agm N.too6 K S.c q1 q2 q3 n kk k hK hS.lc lg hS.bc (by omega) (by omega)
 have nu:Bs 13000000 (D5 K S.c):=λ x hx=>by
  obtain ⟨r,hr,rfl⟩:=List.mem_map.1 hx;exact ((lg r hr).dot hS.bc).le (by
   rw[hK.r r hr];have:n*(kk+k+1)<=3*(kk+k+1):=Nat.mul_le_mul_right _ hn
   omega)
 have hI:=λ q1 q2=>kV N.too6 S.c (D5 K S.c) q1 q2 k 13000000 (by rw[hS.lc,iw]) hS.bc nu (by
  rw[hS.lc];have:n*(k+13000000+1)<=3*(k+13000000+1):=Nat.mul_le_mul_right _ hn
  omega) (by rw[hS.lc];omega)
 rw[Ahy hK hS.lc]at hI;have hM:=TB N.tob8 hS.bd hS.bd (by omega) (by omega);have xn:Bt (3*(3*(kk+(k+k)+1)+1)) (FZ K S.c n):=(OS (λ i=>(OS (λ j=>(E3 lg i j).mul ((GK hS.bc i).mul (GK hS.bc j))) n).le (Nat.mul_le_mul_right _ hn)) n).le (Nat.mul_le_mul_right _ hn);have yh:=WN N.tob8 (hS.bd.mul hS.bd) xn (by omega) (by omega);generalize D5 K S.c=kc at *;refine Ev.x N.KQ rfl rfl ?_;(repeat' ((first|(apply AG<;>intro hc<;>try (exfalso;omega))|apply AE|refine AC (Af) ?_|refine AC (hv) ?_|refine AC (hM) ?_|refine AC (hT _ _ _) ?_|refine AC (hI _ _) ?_|refine AC (yh) ?_)<;>conv=>whnf))
 exact AX rfl (by simp only[A3,CG,and_true,true_and];exact ⟨CM _,CM _⟩)
theorem Agi (N:df L) (l:List Int) (q:Bool) (n:Nat) (hl : ∀ x∈l,JO x) (hn:n<=1000000):TS L 141 [.sl q (l.map YC),.int .i64 (n:Int)] 3 ((F4 l n).map eQ):=by
 have ff : ∀ i:Nat,JO (HM l (i:Int)):=λ i=>by
  unfold HM;split
  ·rw[List.getD_eq_getElem?_getD]
   cases e:l[((i:Int)).toNat]? with
   | none=>simp [JO]
   | some x=>exact hl x (zM e)
  ·simp [JO]
 refine TS.x N.ST rfl rfl ?_;(repeat' (apply AE<;>conv=>whnf))
 refine BP (λ i=>n-i) (λ(i:Nat)=>i<=n) (λ i=>[(6,.int .i64 i),(5,.row 5 0 3 0 i)]) (λ i=>[(5,5,.rw 3 ((F4 l i).map eQ))]) [] [] 0 (by (conv=>whnf);exact ⟨rfl,rfl,rfl⟩) (by omega) ?_;intro i p1 ih;by_cases hi:i<n
 ·have hA':=λ q=>Aho N.toy9 l q (i:Int)
  have hW:=lK N.toy9 (HM l (i:Int)) 2000 (ff i) (by omega);have hw0:0<=F8 (HM l (i:Int)) 2000/\F8 (HM l (i:Int)) 2000<2000:=by unfold F8;split<;>omega
  have Hp:=Aj0 l i;have hlen:=gA l i;have hF:=YG N.tob8 (F8 (HM l (i:Int)) 2000%25-12) (1+F8 (HM l (i:Int)) 2000/25%8) (by omega) (by omega);have hF':Ev L 125 [.int .i64 (F8 (HM l (i:Int)) 2000%25-12),.int .i64 (1+F8 (HM l (i:Int)) 2000/25%8)] (.agg (eQ (YZ (F8 (HM l (i:Int)) 2000)))):=hF;clear hF;generalize YZ (F8 (HM l (i:Int)) 2000)=y at *;generalize F8 (HM l (i:Int)) 2000=v at *;(repeat' ((first|(apply AG<;>intro hc<;>try (exfalso;omega))|(apply AU;omega)|(apply B7;omega)|(refine XY ?_ (λ_ _ _ => ?_) (λ_ _ _ _ => ?_);omega;all_goals try (exfalso;omega))|(refine OW ?_ ?_ (λ_ => ?_) (λ_ _ => ?_);omega;omega;all_goals try (exfalso;omega))|apply DW|apply AE|refine AC (hA' _) ?_|refine AC (hW) ?_|refine AC (hF') ?_)<;>conv=>whnf))
  refine EO (enc:=eQ) y rfl hlen.symm rfl (by omega) (by omega) ?_;(conv=>whnf)
  (repeat' ((first|(apply AU;omega)|fail)<;>conv=>whnf))
  rw[show (F4 l i++[y]).length=i+1 by simp [hlen],<-Hp];exact BG [(5,27)] (ih (i+1) (by omega) (by omega))
 ·obtain rfl:i=n:=by omega
  clear ih;have hlen:=gA l i;(repeat' ((first|(apply AG<;>intro hc<;>try (exfalso;omega))|apply AE)<;>conv=>whnf))
  exact ⟨rfl,rfl,by simp [hlen],rfl,HO _⟩
def N6 (n:Nat):Rat:=Rat.divInt 1 (16*n)
def S3 (l:List Int) (n:Nat):CU:=⟨CX (N6 n) (OT l n).a,(OT l n).b,(OT l n).c,(OT l n).d⟩
theorem cF {es:List (List AV)} {i j n:Nat} {K:List AV->Prop} {cs ds:List AV} (h:es[i]? = some cs) (hp:part cs j n=some ds) (hk:K ds):A6 es i j n K:=by
 unfold A6;exact ⟨cs,ds,h,hp,hk⟩
theorem cR {es:List (List AV)} {i j:Nat} {vs cs:List AV} {K:List (List AV)->Prop} (h:es[i]? = some cs) (hl:Nat.ble (j+vs.length) cs.length=true) (hk:K (es.set i (splice cs j vs))):A5 es i j vs K:=by
 unfold A5;exact ⟨cs,h,Nat.le_of_ble_eq_true hl,hk⟩
theorem cP {es:List (List AV)} {off len:Nat} {K:List (List AV)->Prop} (h:Nat.ble (off+len) es.length=true) (hz:es.all FU=true) (hk:K ((es.drop off).take len)):A1 es off len K :=
 ZM (Nat.le_of_ble_eq_true h) (λ e he=>List.all_eq_true.1 hz e he) hk
theorem Af8 (N:dc L) (l:List Int) (q:Bool) (n:Nat) (hl : ∀ x∈l,JO x) (hn:n<=3):Ev L 317 [.sl q (l.map YC),.int .i64 (n:Int)] (.agg (eS (S3 l n))):=by
 have hR:=λ q=>Agi N.todf l q (n*n+2*n+1) hl (by have:n*n<=9:=Nat.mul_le_mul hn hn;omega)
 have pt:=gA l (n*n+2*n+1);have ve:=Rs l (n*n+2*n+1);have hF:Ev L 125 [.int .i64 1,.int .i64 (16*n)] (.agg (eQ (N6 n))):=YG N.tob8 1 (16*n) (by omega) (by omega);have qa:Bt 6 (N6 n):=by
  rw[N6,show (16*n:Int)=((16*n:Nat):Int) by omega,Rat.divInt_ofNat];refine Bt.mk (by decide) ?_;show _<=64;omega
 have hM : ∀ x∈F4 l (n*n+2*n+1),Ev L 128 [.agg (eQ x),.agg (eQ (N6 n))] (.agg (eQ (x*N6 n))):=λ x hx=>TB N.tob8 (ve x hx) qa (by omega) (by omega)
 unfold S3 OT;simp only[];generalize F4 l (n*n+2*n+1)=X at *;obtain rfl|rfl|rfl|rfl:n=0\/n=1\/n=2\/n=3:=by omega
 ·match X,pt with
  | [x0],_ =>
   refine Ev.x N.H1 rfl rfl ?_;(repeat' (apply AE<;>conv=>whnf))
   refine E2 1000 N.H2 rfl rfl ?_;(repeat' ((first|(apply AU;omega)|(apply EK;omega)|apply AE)<;>conv=>whnf))
   refine SV (enc:=eQ) 1 (hR _) rfl ?_;(conv=>whnf)
   (repeat' ((first|(apply AZ;omega)|(apply AU;omega)|(apply EK;omega)|(refine F9 ?_ (λ_=>rfl) (λ v hv => ?_);omega)|(apply U1;omega))<;>conv=>whnf))
   obtain rfl:x0=v:=Option.some.inj hv;repeat (refine GH ?_;(repeat' ((first|(apply AG<;>intro hc<;>try (exfalso;omega))|apply AE)<;>conv=>whnf)))
   refine ⟨rfl,?_⟩;(conv=>whnf)
   skip
   repeat (first|(refine GH ?_;(repeat' ((first|(apply AG<;>intro hc<;>try (exfalso;omega))|apply AE)<;>conv=>whnf)))|(refine cF rfl rfl ?_;(conv=>whnf);skip)|(refine cR rfl rfl ?_;(conv=>whnf);skip))
   repeat (first|(refine AZ rfl ?_;(conv=>whnf))|(refine cP rfl rfl ?_;(conv=>whnf)))
   exact AX rfl (ZU _)
 ·match X,pt with
  | [x0,x1,x2,x3],_ =>
   refine Ev.x N.H1 rfl rfl ?_;(repeat' (apply AE<;>conv=>whnf))
   refine E2 1000 N.H2 rfl rfl ?_;(repeat' ((first|(apply AU;omega)|(apply EK;omega)|apply AE)<;>conv=>whnf))
   refine SV (enc:=eQ) 4 (hR _) rfl ?_;(conv=>whnf)
   (repeat' ((first|(apply AZ;omega)|(apply AU;omega)|(apply EK;omega)|(refine cE ?_ (λ_=>rfl) (λ v hv => ?_);omega)|(apply U1;omega))<;>conv=>whnf))
   obtain rfl:x3=v:=Option.some.inj hv;repeat (refine GH ?_;(repeat' ((first|(apply AG<;>intro hc<;>try (exfalso;omega))|(apply AZ;omega)|(apply AU;omega)|(apply EK;omega)|(apply U1;omega)|apply AE)<;>conv=>whnf)))
   refine ⟨rfl,?_⟩;(conv=>whnf)
   skip
   repeat (first|(refine GH ?_;(repeat' ((first|(apply AG<;>intro hc<;>try (exfalso;omega))|(apply AZ;omega)|(apply AU;omega)|apply AE)<;>conv=>whnf)))|(refine cF rfl rfl ?_;(conv=>whnf);(repeat' ((first|(apply AZ;omega)|(apply EK;omega)|refine AC (hF) ?_|refine AC (hM _ (by simp)) ?_)<;>conv=>whnf)))|(refine cR rfl rfl ?_;(conv=>whnf);(repeat' ((first|(apply AU;omega)|fail)<;>conv=>whnf))))
   repeat (first|(refine AZ rfl ?_;(conv=>whnf))|(refine cP rfl rfl ?_;(conv=>whnf)))
   exact AX rfl (ZU _)
 ·match X,pt with
  | [x0,x1,x2,x3,x4,x5,x6,x7,x8],_ =>
   refine Ev.x N.H1 rfl rfl ?_;(repeat' (apply AE<;>conv=>whnf))
   refine E2 1000 N.H2 rfl rfl ?_;(repeat' ((first|(apply AU;omega)|(apply EK;omega)|apply AE)<;>conv=>whnf))
   refine SV (enc:=eQ) 9 (hR _) rfl ?_;(conv=>whnf)
   (repeat' ((first|(apply AZ;omega)|(apply AU;omega)|(apply EK;omega)|(refine cE ?_ (λ_=>rfl) (λ v hv => ?_);omega)|(apply U1;omega))<;>conv=>whnf))
   obtain rfl:x8=v:=Option.some.inj hv;repeat (refine GH ?_;(repeat' ((first|(apply AG<;>intro hc<;>try (exfalso;omega))|(apply AZ;omega)|(apply AU;omega)|(apply EK;omega)|(apply U1;omega)|apply AE)<;>conv=>whnf)))
   refine ⟨rfl,?_⟩;(conv=>whnf)
   skip
   repeat (first|(refine GH ?_;(repeat' ((first|(apply AG<;>intro hc<;>try (exfalso;omega))|(apply AZ;omega)|(apply AU;omega)|apply AE)<;>conv=>whnf)))|(refine cF rfl rfl ?_;(conv=>whnf);(repeat' ((first|(apply AZ;omega)|(apply EK;omega)|refine AC (hF) ?_|refine AC (hM _ (by simp)) ?_)<;>conv=>whnf)))|(refine cR rfl rfl ?_;(conv=>whnf);(repeat' ((first|(apply AU;omega)|fail)<;>conv=>whnf))))
   repeat (first|(refine AZ rfl ?_;(conv=>whnf))|(refine cP rfl rfl ?_;(conv=>whnf)))
   exact AX rfl (ZU _)
 ·match X,pt with
  | [x0,x1,x2,x3,x4,x5,x6,x7,x8,x9,xa,xb,xc,xd,xe,xf],_ =>
   refine Ev.x N.H1 rfl rfl ?_;(repeat' (apply AE<;>conv=>whnf))
   refine E2 1000 N.H2 rfl rfl ?_;(repeat' ((first|(apply AU;omega)|(apply EK;omega)|apply AE)<;>conv=>whnf))
   refine SV (enc:=eQ) 16 (hR _) rfl ?_;(conv=>whnf)
   (repeat' ((first|(apply AZ;omega)|(apply AU;omega)|(apply EK;omega)|(refine cE ?_ (λ_=>rfl) (λ v hv => ?_);omega)|(apply U1;omega))<;>conv=>whnf))
   obtain rfl:xf=v:=Option.some.inj hv;repeat (refine GH ?_;(repeat' ((first|(apply AG<;>intro hc<;>try (exfalso;omega))|(apply AZ;omega)|(apply AU;omega)|(apply EK;omega)|(apply U1;omega)|apply AE)<;>conv=>whnf)))
   refine ⟨rfl,?_⟩;(conv=>whnf)
   skip
   repeat (first|(refine GH ?_;(repeat' ((first|(apply AG<;>intro hc<;>try (exfalso;omega))|(apply AZ;omega)|(apply AU;omega)|apply AE)<;>conv=>whnf)))|(refine cF rfl rfl ?_;(conv=>whnf);(repeat' ((first|(apply AZ;omega)|(apply EK;omega)|refine AC (hF) ?_|refine AC (hM _ (by simp)) ?_)<;>conv=>whnf)))|(refine cR rfl rfl ?_;(conv=>whnf);(repeat' ((first|(apply AU;omega)|fail)<;>conv=>whnf))))
   repeat (first|(refine AZ rfl ?_;(conv=>whnf))|(refine cP rfl rfl ?_;(conv=>whnf)))
   exact AX rfl (ZU _)
theorem Alz {n k j:Nat} (hn:n<=4) (hj:j<=128):XM n k j<=5*k+128*(17*k+4):=by
 have h1:n*n<=4*4:=Nat.mul_le_mul hn hn;have h2:n*n*k<=16*k:=Nat.mul_le_mul_right k h1;have h3:n*k<=4*k:=Nat.mul_le_mul_right k hn;have h4:j*((k+n*n*k)+n)<=128*(17*k+4):=Nat.mul_le_mul hj (by omega);rw[XM];omega
theorem Bt.ng {k:Nat} {x:Rat} (h:Bt k x):Bt k (-x):=⟨by simpa using h.1,by simpa using h.2⟩
theorem AhT:Bt 4 (Rat.divInt 1 2):=(Bt.mk (k:=4) (z:=1) (d:=2) (by decide) (by decide))
end Go.c9



namespace Go.c9
open F
attribute [local irreducible] AA AF AP AD CI AY AW A6 A5 B2 AM BQ B8 C8 BM A1 BR B9 AB A7 AJ pw BO BH CH CK CS CP CD BT CJ
variable {L:Lib}
set_option maxHeartbeats 32000000
set_option maxRecDepth 8000
theorem Ad0 (n:Nat) (hn:n<=3):Bt 6 (N6 n):=by
 rw[N6,show (16*n:Int)=((16*n:Nat):Int) by omega,Rat.divInt_ofNat];refine Bt.mk (by decide) ?_;show _<=64;omega
theorem sG (l:List Int) (n:Nat) (hn:n<=3):(S3 l n).Ok n 10:=by
 have h:=Ak3 l n;refine ⟨by rw[S3,oS];exact h.la,gQ _ h.lr,h.lb,h.lc,?_,h.bb.le (by omega),h.bc.le (by omega),h.bd.le (by omega)⟩;intro r hr x hx;obtain ⟨s,hs,rfl⟩:=List.mem_map.1 hr;obtain ⟨y,hy,rfl⟩:=List.mem_map.1 hx;exact (h.ba s hs y hy).mul (Ad0 n hn)
theorem Sk (S:CU) : ∀ j,wQ S j=F7 S.a S.b j
 | 0=>rfl
 | j+1=>by rw[wQ,F7,Sk S j]
theorem Akb : ∀ n,n<4 -> ∀ i,i<20->UQ n 10 0 i<1099511627776:=by decide +kernel
theorem Rt (l:List Int) (m:Nat) : ∀ x∈F4 l m,Wh 14 (((840:Nat):Rat)*x):=λ x hx=>by
 simp only[F4,List.mem_map]at hx;obtain ⟨i,_,rfl⟩:=hx;have:0<=F8 (HM l (i:Int)) 2000:=by unfold F8;split<;>omega
 exact Aln (by omega) (by omega)
theorem Ad2 {n:Nat} (hn:1<=n):((16*n:Nat):Rat)*N6 n=1:=by
 rw[N6,show (16*(n:Int))=((16*n:Nat):Int) by omega,Rat.divInt_ofNat,Rat.mkRat_eq_div,Rat.div_def,show ((1:Int):Rat)=1 from rfl,Rat.one_mul];refine Rat.mul_inv_cancel _ λ e => ?_
 have:=Rat.natCast_inj.1 (e.trans (show (0:Rat)=((0:Nat):Rat) from rfl))
 omega
theorem Sn {A:List (List Rat)} {k M:Nat} (h : ∀ r∈A,∀ x∈r,Wh k ((M:Rat)*x)) (i j:Nat):Wh k ((M:Rat)*A4 A i j):=by
 have h0:Wh k ((M:Rat)*0):=by rw[Rat.mul_zero];exact Wh.zero k
 cases e:A[i]? with
 | none =>
  rw[A4,show A.getD i []=[] by rw[List.getD_eq_getElem?_getD,e];rfl];exact h0
 | some r =>
  rw[J5 e,List.getD_eq_getElem?_getD];cases e2:r[j]? with
  | none=>exact h0
  | some x=>exact h r (zM e) x (zM e2)
theorem xH {A:List (List Rat)} {B:List Rat} {n k M m l:Nat} (hn:n<=3) (hA:Sq n A) (hB:B.length=n) (ke:Ms k A) (Aa:Bs k B) (hM:1<=M) (dj:M<=2^m) (hm:2*m+2<=180) (hl:2*l<=180)
  (ha : ∀ i j,Wh m ((M:Rat)*A4 A i j)) (hb : ∀ i,Wh l ((M:Rat)*bQ B i)):V4 A B n k:=by
 have Kl:M*M<=2^(2*m):=by
  rw[Nat.two_mul,Nat.pow_add];exact Nat.mul_le_mul dj dj
 have ck:1<=M*M:=Nat.mul_le_mul hM hM;have hg:=AhF (A:=A) ha dj (n:=n);have ud : ∀ y∈gR B n,Wh 180 (((M*M:Nat):Rat)*y):=λ y hy=>by
  obtain ⟨p,_,rfl⟩:=List.mem_map.1 hy;have:=(hb p.1).mul (hb p.2)
  rw[show (M:Rat)*bQ B p.1*((M:Rat)*bQ B p.2)=((M*M:Nat):Rat)*(bQ B p.1*bQ B p.2) by rw[Rat.natCast_mul];grind]at this;exact this.le (by omega)
 have kf : ∀ r∈CO (gM A n) ((gR B n).map λ x=>[x]),∀ x∈r,Wh 180 (((M*M:Nat):Rat)*x):=by
  intro r hr;obtain ⟨i,hi⟩:=List.getElem?_of_mem hr;rw[CO,List.getElem?_zipWith]at hi;cases e1:(gM A n)[i]? with
  | none=>rw[e1]at hi;cases hi
  | some u =>
   rw[e1,List.getElem?_map]at hi;cases e2:(gR B n)[i]? with
   | none=>rw[e2]at hi;cases hi
   | some y =>
    rw[e2]at hi;obtain rfl:=Option.some.inj hi;intro x hx;rcases List.mem_append.1 hx with hx|hx
    ·exact (hg u (zM e1) x hx).le (by omega)
    ·obtain rfl:=List.mem_singleton.1 hx
     exact ud _ (zM e2)
 have bt : ∀ x:Rat,Wh 180 (((M*M:Nat):Rat)*x)->Bt 180 x:=λ x hx=>sE (S:=M*M) (by omega) (Nat.le_trans Kl (Nat.pow_le_pow_right (by omega) (by omega))) (by rw[Rat.mul_comm];exact hx)
 refine ⟨hA,hB,ke,Aa,λ r hr x hx=>bt x ((hg r hr x hx).le (by omega)),λ x hx=>bt x (ud x hx),λ r hr j => ?_,λ r hr => ?_⟩
 ·exact ((Qn ck Kl (k:=180) λ x hx=>kf r hr x (List.mem_of_mem_take hx)).1.bt).le (by omega)
 ·obtain ⟨s,hs,rfl⟩:=List.mem_map.1 hr
  intro x hx;obtain ⟨y,hy,rfl⟩:=List.mem_map.1 hx;exact ((Qn ck Kl (k:=180) λ x hx=>kf s hs x hx).2 y hy).bt
theorem Ad1 (l:List Int) {n:Nat} (hn:n<=3):V4 (S3 l n).a (S3 l n).b n 10:=by
 have j6:=sG l n (by omega);have zj : ∀ r∈(OT l n).a,∀ x∈r,x∈F4 l (n*n+2*n+1):=by
  intro r hr x hx;simp only[OT,bH,List.mem_map]at hr;obtain ⟨j,_,rfl⟩:=hr;exact List.mem_of_mem_take (List.mem_of_mem_drop hx)
 have Jg : ∀ x∈(OT l n).b,x∈F4 l (n*n+2*n+1):=λ x hx=>List.mem_of_mem_take (List.mem_of_mem_drop hx)
 by_cases h0:n=0
 ·subst h0
  have ha:(S3 l 0).a=[]:=List.length_eq_zero_iff.1 j6.la;have hb:(S3 l 0).b=[]:=List.length_eq_zero_iff.1 j6.lb;exact ⟨⟨j6.la,j6.lr⟩,j6.lb,j6.ba,j6.bb,λ r hr=>(by cases hr),λ r hr=>(by cases hr),λ r hr=>(by cases hr),λ r hr=>(by cases hr)⟩
 refine xH (M:=840*(16*n)) (m:=16) (l:=30) hn ⟨j6.la,j6.lr⟩ j6.lb j6.ba j6.bb (by omega) (by omega) (by omega) (by omega) (Sn λ r hr x hx => ?_) λ i => ?_
 ·obtain ⟨s,hs,rfl⟩:=List.mem_map.1 hr
  obtain ⟨y,hy,rfl⟩:=List.mem_map.1 hx;have h1:=Rt l _ y (zj s hs y hy);have h2:=Ad2 (n:=n) (by omega);rw[Rat.natCast_mul,show ((840:Nat):Rat)*((16*n:Nat):Rat)*(y*N6 n)=((840:Nat):Rat)*y*(((16*n:Nat):Rat)*N6 n) by grind,h2,Rat.mul_one];exact h1.le (by omega)
 ·have h16:Wh 6 (((16*n:Nat):Rat)):=⟨((16*n:Nat):Int),by rw[Rat.intCast_natCast],by rw[Int.natAbs_natCast];show _<=64;omega⟩
  cases e:(S3 l n).b[i]? with
  | none =>
   rw[bQ,List.getD_eq_getElem?_getD,e,show ((none:Option Rat).getD 0)=0 from rfl,Rat.mul_zero];exact Wh.zero _
  | some x =>
   have h1:=(Rt l _ x (Jg x (zM e))).mul h16;rw[cV e,Rat.natCast_mul,show ((840:Nat):Rat)*((16*n:Nat):Rat)*x=((840:Nat):Rat)*x*((16*n:Nat):Rat) by grind];exact h1.le (by omega)
theorem Agy (N:iy L) (ud:V4 [[Rat.divInt 1 2]] [1] 1 10 -> ∃ v,Ev L 324 [.sl false (CN false [[Rat.divInt 1 2]]),.sl false ([(1:Rat)].map eQ)] v/\qW [[Rat.divInt 1 2]] [1] 1 v):Ev L 336 [] (.bool true):=by
 have A:o8 L:=N.tow3.todi.too8;have hO:=YH A.tob8 1 (by omega);have hF:=YG A.tob8 1 2 (by omega) (by omega);have hF2:=YG A.tob8 4 3 (by omega) (by omega);have hF3:=YG A.tob8 1 3 (by omega) (by omega);have hh:=AhT;have m5 : -(Rat.divInt 1 2)≠0:=by decide
 have Lm:DJ (B6 1 [[Rat.divInt 1 2]] 0)=true:=by decide +kernel
 have hG:V4 [[Rat.divInt 1 2]] [1] 1 10:=by
  refine xH (M:=2) (m:=16) (l:=30) (by omega) ⟨rfl,λ r hr=>by obtain rfl:=List.mem_singleton.1 hr;rfl⟩ rfl (λ r hr x hx => ?_) (λ x hx => ?_) (by omega) (by omega) (by omega) (by omega) (Sn λ r hr x hx => ?_) λ i => ?_
  ·obtain rfl:=List.mem_singleton.1 hr
   obtain rfl:=List.mem_singleton.1 hx;exact hh.le (by omega)
  ·obtain rfl:=List.mem_singleton.1 hx
   exact Bt.one _
  ·obtain rfl:=List.mem_singleton.1 hr
   obtain rfl:=List.mem_singleton.1 hx;exact ⟨1,by decide +kernel,by decide⟩
  ·cases i with
   | zero=>exact ⟨2,by decide +kernel,by decide⟩
   | succ i=>exact ⟨0,by rw[show bQ [1] (i+1)=0 from rfl,Rat.mul_zero];rfl,by decide⟩
 have fr:NS (BC 1 1).length (gM [[Rat.divInt 1 2]] 1):=by
  intro X hX hk j;match X,hX with
  | [x],_ =>
   have h1:=hk (DZ [[Rat.divInt 1 2]] 1 (0,0)) (List.mem_singleton.2 rfl);have h2:(Rat.divInt 3 4)*x+0=0:=by
    have yg:gC [[Rat.divInt 1 2]] (0,0) (0,0)*x+0=0:=h1;rwa [show gC [[Rat.divInt 1 2]] (0,0) (0,0)=Rat.divInt 3 4 by decide +kernel]at yg
   have h3:x=0:=by
    have:(Rat.divInt 3 4:Rat)=3/4:=by decide +kernel
    grind
   cases j with
   | zero=>exact h3
   | succ j=>rfl
 have hval : ∀ X:List Rat,NY [[Rat.divInt 1 2]] [1] X 1->FD ⟨[[Rat.divInt 1 2]],[1],[Rat.divInt 1 2],1⟩ (kM X 1) 1 0=Rat.divInt 4 3/\FD ⟨[[Rat.divInt 1 2]],[1],[Rat.divInt 1 2],1⟩ (kM X 1) 1 1=Rat.divInt 1 3:=by
  intro X hX;have e12:(Rat.divInt 1 2:Rat)=1/2:=by decide +kernel
  have e43:(Rat.divInt 4 3:Rat)=4/3:=by decide +kernel
  have e13:(Rat.divInt 1 3:Rat)=1/3:=by decide +kernel
  have h1:=hX.eq (by omega) 0 0 (by omega) (by omega);have h2:A4 [[Rat.divInt 1 2]] 0 0=Rat.divInt 1 2:=rfl;have h3:bQ [1] 0=1:=rfl;have h4:bQ [Rat.divInt 1 2] 0=Rat.divInt 1 2:=rfl;simp only[H6,BF,h2,h3]at h1;simp only[FD,FZ,BF,GQ,h4];rw[e12]at h1 ⊢;rw[e43,e13];generalize A4 (kM X 1) 0 0=k at *;constructor<;>grind
 replace ud:=ud hG
 generalize Rat.divInt 1 2=h at *;have hN:=eA A.too0 hh (by omega);have hA:Bs 4 [1,-h]:=λ x hx=>by
  rcases List.mem_cons.1 hx with rfl|hx
  ·exact Bt.one 4
  ·obtain rfl:=List.mem_singleton.1 hx
   exact hh.ng
 have hB:Bs 4 [(1:Rat)]:=λ x hx=>by
  obtain rfl:=List.mem_singleton.1 hx;exact Bt.one 4
 have tB:TP [(1:Rat)]=[1]:=by decide
 have tA:TP [1,-h]=[1,-h]:=by
  show List.take (if -h=0 then _ else 2) [1,-h]=_;rw[if_neg m5];rfl
 have hC:=Agd A true true [1] [1,-h] 1 4 tB tA hB hA (by simp) (by simp) rfl rfl (by omega);have e:FJ [1] [1,-h] 1=⟨[[h]],[1],[h],1⟩:=by
  have:FJ [1] [1,-h] 1=⟨[[- -h]],[1],[0-1 * -h],1⟩:=rfl
  rw[this,Rat.neg_neg,show 0-1 * -h=h by grind]
 rw[e]at hC;have j6:CU.Ok ⟨[[h]],[1],[h],1⟩ 1 10:=⟨rfl,λ r hr=>by obtain rfl:=List.mem_singleton.1 hr;rfl,rfl,rfl,hG.ba,hG.bb,λ x hx=>by
  obtain rfl:=List.mem_singleton.1 hx;exact hh.le (by omega),Bt.one _⟩
 obtain ⟨v,h1,hv⟩:=ud;rcases hv with ⟨h3|h3,_⟩|⟨_,X,hX,ve,rfl⟩
 ·have:=h3 0 (by omega)
  rw[Lm]at this;cases this
 ·exact absurd fr h3
 obtain ⟨v1,v2⟩:=hval X hX;have hE:=vF N.tol8 ⟨[[h]],[1],[h],1⟩ 1 j6 (by omega) (by omega) (kM X 1) (aL X 1) (mI ve 1) (by omega) h1;have hT:=dX N.tol8 ⟨[[h]],[1],[h],1⟩ 1 1 j6 (by omega) (by omega) (by omega) (kM X 1) (aL X 1) (mI ve 1) (by omega) h1;rw[v1]at hE;rw[v2]at hT;have Jx:Bt 3 (Rat.divInt 4 3):=⟨by decide,by decide⟩;have Jw:Bt 3 (Rat.divInt 1 3):=⟨by decide,by decide⟩;have Ds:=Z6 A.tob8 Jx Jx (by omega) (by omega);have Ez:=Z6 A.tob8 Jw Jw (by omega) (by omega);rw[oP.2 rfl]at Ds Ez;clear v1 v2 hval Jx Jw;generalize Rat.divInt 4 3=x43 at *;generalize Rat.divInt 1 3=x13 at *;refine Ev.x N.PF rfl rfl ?_;(repeat' ((first|(apply AG<;>intro hc<;>try (exfalso;omega))|refine JQ rfl ?_|refine X0 rfl rfl ?_|apply AE|refine AC (hO) ?_|refine AC (hF) ?_|refine AC (hF2) ?_|refine AC (hF3) ?_|refine AC (hN) ?_|refine AC (hC) ?_|refine AC (hE) ?_|refine AC (hT) ?_|refine AC (Ds) ?_|refine AC (Ez) ?_)<;>conv=>whnf))
 exact IJ rfl
theorem Agx (N:iy L):Ev L 336 [] (.bool true):=Agy N λ hG=>by
 obtain ⟨v,h1,_,hv⟩:=xI N.tov7 [[Rat.divInt 1 2]] [1] 1 hG (by omega) (by omega);exact ⟨v,h1,hv⟩
theorem Ahk (N:o0 L) {x:Rat} {k:Nat} (hx:Bt k x) (hk:k<2199023255552) (mn:0<=x) : ∃ s:Int,Ev L 155 [.agg (eQ x)] (.int .i64 s)/\0<=s:=by
 have hm:=hx.ji hk;obtain ⟨n',m',d',hp,s1,s2,s3,s4⟩:=O5 N.tob8 (decide (x.num<0)) false (dg x.num.natAbs) (dg x.den) 274877906943 (by omega) (hm.1.le (by omega)) (hm.2.le (by omega));have hS:=λ q=>YF N.tob8 n' q m' (s1.le (by omega))
 rw[EM]at s4;have hz:0<=q6 (zv n' m'):=by
  have h1:0<=zv n' m':=by
   rw[s4]at mn;by_cases h:0<=zv n' m'
   ·exact h
   ·exfalso
    rw[<-Rat.divInt_ofNat,Rat.divInt_nonneg_iff_of_pos_right (by omega)]at mn;exact h mn
  unfold q6;split<;>(try split)<;>omega
 generalize q6 (zv n' m')=s at *;refine ⟨s,?_,hz⟩;refine Ev.x N.KN rfl rfl ?_;(repeat' ((first|apply AE|refine AC (hp) ?_|refine AC (hS _) ?_)<;>conv=>whnf))
 exact C2 rfl
theorem AgA (N:iy L) (l:List Int) (size from_:Int) (q:Bool) (hl : ∀ v∈l,JO v) (hs:JO size) (Ga:JO from_) :
  Ev L 338 [.sl q (l.map YC),.int .i64 size,.int .i64 from_] (.bool true):=by
 have C:dc L:=N.todc;have W:y9 L:=C.todf.toy9;have A:o8 L:=N.tow3.todi.too8;have Gg:=Agx N;obtain ⟨g1,g2⟩:=Sr (v:=size) (m:=4) (by omega);obtain ⟨g3,g4⟩:=Sr (v:=from_) (m:=6) (by omega);have Va:=lK W size 4 hs (by omega);have Dx:=lK W from_ 6 Ga (by omega);generalize F8 size 4=z1 at *;generalize F8 from_ 6=z2 at *;obtain ⟨n,rfl⟩:=Int.eq_ofNat_of_zero_le g1;obtain ⟨m,rfl⟩:=Int.eq_ofNat_of_zero_le g3;have hn:n<=3:=by omega
 have hm:m<=5:=by omega
 have sv:=λ q=>Af8 C l q n hl (by omega)
 have j6:=sG l n (by omega);have hG:=Ad1 l hn;generalize S3 l n=S at *;have hA:Sq n S.a:=⟨j6.la,j6.lr⟩;obtain ⟨v,h1,h2,hv⟩:=xI N.tov7 S.a S.b n hG (by omega) hn;refine Ev.x N.PE rfl rfl ?_;rcases hv with ⟨_,e,he,rfl⟩|⟨⟨ic,Ix⟩,X,hX,ve,rfl⟩
 ·have hE:=Age N.tol8 S n j6 (by omega) hn e he h1
  have hR:=Aha N.tol8 S n j6 (by omega) hn e he h2;have Bu:=kX N.tol8 S n m j6 (by omega) hn (by omega) e he h1;have Ag:=kX N.tol8 S n (m+1) j6 (by omega) hn (by omega) e he h1;(repeat' ((first|(apply AG<;>intro hc<;>try (exfalso;omega))|(apply AU;omega)|apply AE|refine AC (Va) ?_|refine AC (sv _) ?_|refine AC (Dx) ?_|refine AC (hE) ?_|refine AC (hR) ?_|refine AC (Bu) ?_|refine AC (Ag) ?_|refine AC (Gg) ?_)<;>conv=>whnf))
  exact IJ rfl
 ·have lg:=mI ve n
  have Ic:=aL X n;have Kf:=hX.eq hn;generalize kM X n=K at *;have hE:=vF N.tol8 S n j6 (by omega) hn K Ic lg (by omega) h1;have hR:=Ag9 N.tol8 S n j6 (by omega) hn K Ic lg (by omega) h2;have Bu:=dX N.tol8 S n m j6 (by omega) hn (by omega) K Ic lg (by omega) h1;have Ag:=dX N.tol8 S n (m+1) j6 (by omega) hn (by omega) K Ic lg (by omega) h1;have hI:=Agg A.too6 S n 10 m j6 (by omega) (by omega) (λ i hi=>Akb n (by omega) i (by omega)) (by omega);have Gj:S.a.length=S.b.length:=by rw[j6.la,j6.lb]
  have va:(S.outs (List.replicate n 0) (GG m)).length=m:=by rw[fP,aK]
  have nu : ∀ j,j<=128->Bs 300000 (F7 S.a S.b j):=λ j hj=>(Alk hA j6.lb j6.ba j6.bb j).le (by have:=Alz (n:=n) (k:=10) (by omega) hj;omega)
  have Ig:Bs 2000000 (S.outs (List.replicate n 0) (GG m)):=λ x hx=>by
   obtain ⟨t,ht⟩:=List.getElem?_of_mem hx;have bm:=(zS ht).1;have:=xR (S:=S) (n:=n) Gj (show t<m by omega)
   rw[this]at ht;obtain rfl:=Option.some.inj ht;cases t with
   | zero=>exact j6.bd.le (by omega)
   | succ t =>
    show Bt _ (A0 S.c (wQ S t));rw[Sk];refine (j6.bc.dot (nu t (by omega))).le ?_;rw[j6.lc];have:=Nat.mul_le_mul_right (10+300000+1) (show n<=4 by omega)
    omega
  have pc : ∀ t,t<=6->Bt 9000000 (FD S K n t):=λ t ht=>by
   have xn : ∀ v,Bs 100000 v->Bt (3*(3*(340000+(100000+100000)+1)+1)) (FZ K v n):=λ v hv=>(OS (λ i=>(OS (λ j=>(E3 lg i j).mul ((GK hv i).mul (GK hv j))) n).le (Nat.mul_le_mul_right _ hn)) n).le (Nat.mul_le_mul_right _ hn)
   cases t with
   | zero=>exact ((j6.bd.mul j6.bd).add (xn S.c (j6.bc.le (by omega)))).le (by omega)
   | succ t=>exact (xn _ ((qE j6.bc j6.ba hn t).le (Se (by omega) (by omega)))).le (by omega)
  have Kh:=λ q1 q2=>kV A.too6 (S.outs (List.replicate n 0) (GG m)) (S.outs (List.replicate n 0) (GG m)) q1 q2 2000000 2000000 rfl Ig Ig (by
   rw[va];have:m*(2000000+2000000+1)<=5*(2000000+2000000+1):=Nat.mul_le_mul_right _ hm
   omega) (by rw[va];omega)
  have cj:Bt 30000000 (A0 (S.outs (List.replicate n 0) (GG m)) (S.outs (List.replicate n 0) (GG m))):=(Ig.dot Ig).le (by
   rw[va];have:m*(2000000+2000000+1)<=5*(2000000+2000000+1):=Nat.mul_le_mul_right _ hm
   omega)
  have yh:=WN A.tob8 cj (pc m (by omega)) (by omega) (by omega);have wk:=Tv hn hA j6.lb j6.lc Kf m;rw[<-AkS Gj]at wk;rw[wk]at yh;have h0:=pc 0 (by omega);have Dr:=Z6 A.tob8 h0 h0 (by omega) (by omega);rw[oP.2 rfl]at Dr;have hle:=Ak4 hn hA j6.lb j6.lc Kf m;have Mp:=Ak5 hn hA j6.lb j6.lc Ix Kf m;have hCl:=Z6 A.tob8 (pc (m+1) (by omega)) (pc m (by omega)) (by omega) (by omega);obtain ⟨sg,vb,rz⟩:=Ahk N.too0 (pc (m+1) (by omega)) (by omega) Mp;have n7:q6 (FD S K n (m+1)-FD S K n m).num<=0:=by
   have h3 : ¬ 0<q6 (FD S K n (m+1)-FD S K n m).num:=λ h=>by
    have:=gN.1 h
    grind
   omega
  generalize q6 (FD S K n (m+1)-FD S K n m).num=cl at *;generalize Om:FD S K n (m+1)=t1 at *;generalize mn:FD S K n 0=t0 at *;generalize A0 (S.outs (List.replicate n 0) (GG m)) (S.outs (List.replicate n 0) (GG m))=dd at *;clear wk;generalize FD S K n m=t2 at *;generalize S.outs (List.replicate n 0) (GG m)=P at *;(repeat' ((first|(apply AG<;>intro hc<;>try (exfalso;omega))|(apply AU;omega)|apply AE|refine AC (Va) ?_|refine AC (sv _) ?_|refine AC (Dx) ?_|refine AC (hE) ?_|refine AC (hR) ?_|refine AC (Bu) ?_|refine AC (Ag) ?_|refine AC (Gg) ?_|refine AC (hI) ?_|refine AC (Dr) ?_|refine AC (Kh _ _) ?_|refine AC (yh) ?_|refine AC (vb) ?_|refine AC (hCl) ?_)<;>conv=>whnf))
  exact IJ rfl
end Go.c9
