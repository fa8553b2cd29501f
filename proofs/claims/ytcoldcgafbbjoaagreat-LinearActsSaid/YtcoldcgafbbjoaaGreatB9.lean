/-
  Determinants of up to four rows, plain: what the elimination keeps, products, the transposed matrix; the rank of the transposed matrix.
  Written by a program (genPL5.py).
-/
import Derived.Test.YtcoldcgafbbjoaaGreatB8
import Derived.Test.YtcoldcgafbbjoaaGreatB7
import Derived.Test.YtcoldcgafbbjoaaGreatB1
import Derived.Test.YtcoldcgafbbjoaaGreatB2
set_option linter.unusedSimpArgs false
set_option linter.unusedVariables false
set_option linter.unnecessarySimpa false
namespace Go.g6
def FM (a:List (List Rat)) (w:Nat):List (List Rat):=(List.range w).map (DF a)
theorem aC (a:List (List Rat)) (w:Nat):(FM a w).length=w:=by simp [FM]
theorem iP {a:List (List Rat)} {w i:Nat} (h:i<w):(FM a w)[i]? = some (DF a i):=by
 simp only[FM,List.getElem?_map,List.getElem?_range h,Option.map_some]
theorem vY {a:List (List Rat)} {w n:Nat} (h:a.length=n) : ∀ r∈FM a w,r.length=n:=λ r hr=>by
 obtain ⟨i,_,rfl⟩:=List.mem_map.1 hr;rw[UY];exact h
theorem Ae3 {p f l:Rat} {r t:List Rat} {B:List (List Rat)} {n:Nat} (h:r.length=t.length):E0 (comb p f l r t) B n=comb p f l (E0 r B n) (E0 t B n):=by
 refine List.ext_getElem? λ j => ?_
 by_cases hj:j<n
 ·rw[X0 (x:=A5 r (DF B j)) (y:=A5 t (DF B j)) (by simp [E0,hj]) (by simp [E0,hj]),E0,List.getElem?_map,List.getElem?_range hj,Option.map_some,bY p f l r t _ h,Rat.mul_comm p,Rat.mul_comm f]
 ·rw[List.getElem?_eq_none (by rw[O2];omega),List.getElem?_eq_none (by rw[U0 (by rw[O2,O2]),O2];omega)]
theorem Ae7 (s:Rat) (r:List Rat) (B:List (List Rat)) (n:Nat):E0 (r.map (· * s)) B n=(E0 r B n).map (· * s):=by
 simp only[E0,List.map_map];exact List.map_congr_left λ j _=>Q4 s r _
theorem EQ.mulR {n:Nat} {u:Rat} {D:List (List Rat)->Rat} (hD:EQ n n u D) (B:List (List Rat)) (ht : ∀ m:List (List Rat),m.length=n->(∀ r∈m,r.length=n)->QW (CX m) n->D (DE m B n)=FE m (List.range n)*D B):EQ n n (D B) λ A=>D (DE A B n):=by
 have hl : ∀ m:List (List Rat),m.length=n->(DE m B n).length=n:=λ m h=>by rw[Y1];exact h
 have hw : ∀ m:List (List Rat),∀ r∈DE m B n,r.length=n:=λ m r hr=>by
  obtain ⟨x,_,rfl⟩:=List.mem_map.1 hr;exact O2 _ _ _
 have ha : ∀ (m:List (List Rat)) (i:Nat) (r:List Rat),m[i]? = some r->(DE m B n)[i]? = some (E0 r B n):=λ m i r h=>by rw[DE,List.getElem?_map,h];rfl
 have hs : ∀ (m:List (List Rat)) (i:Nat) (r:List Rat),DE (m.set i r) B n=(DE m B n).set i (E0 r B n):=λ m i r=>by rw[DE,List.map_set];rfl
 refine ⟨λ m i k a b h1 h2 h3 h4 h5 => ?_,λ m i k r t p f l h1 h2 h3 h4 h5 h6 => ?_,λ m i r s h1 h2 h3 => ?_,ht⟩
 ·show D (DE ((m.set i b).set k a) B n)=_
  rw[hs,hs];exact hD.sw _ i k _ _ (hl m h1) (hw m) (ha m i a h3) (ha m k b h4) h5
 ·show D (DE (m.set i (comb p f l r t)) B n)=_
  rw[hs,Ae3 (by rw[h2 r (zM h3),h2 t (zM h4)])];exact hD.ad _ i k _ _ p f l (hl m h1) (hw m) (ha m i r h3) (ha m k t h4) h5 h6
 ·show D (DE (m.set i (r.map (· * s))) B n)=_
  rw[hs,Ae7];exact hD.sc _ i _ s (hl m h1) (hw m) (ha m i r h3)
def J6 (y0:Rat):Rat:=y0
def QK (m:List (List Rat)):Rat:=J6 (CX m 0 0)
theorem yH (y0:Rat):QK [[y0]]=J6 y0:=rfl
theorem sD {α:Type} {l:List α} (h:l.length=1) : ∃ x0,l=[x0]:=by
 match l,h with
 | [x0],_=>exact ⟨x0,rfl⟩
theorem RL {m:List (List Rat)} (h:m.length=1) (hw : ∀ r∈m,r.length=1) : ∃ y0,m=[[y0]]:=by
 obtain ⟨r0,rfl⟩:=sD h;obtain ⟨y0,rfl⟩:=sD (hw r0 (by simp));exact ⟨y0,rfl⟩
theorem UM {α:Type} {x0 x:α} {i:Nat} (h:[x0][i]? = some x):(i=0/\x=x0):=by
 match i,h with
 | 0,h=>exact ⟨rfl,(Option.some.inj h).symm⟩
 | i+1,h=>simp at h
theorem Agg (y0 S:Rat):J6 (y0*S)=J6 y0*S:=by simp only[J6]<;>grind
theorem Agi (y0:Rat):J6 y0=y0:=by simp only[J6]<;>grind
theorem Agh (y0:Rat):J6 y0=J6 y0:=by simp only[J6]<;>grind
theorem Agf (y0 lh:Rat):J6 (y0*lh+0)=y0*J6 lh:=by simp only[J6]<;>grind
theorem jI:EQ 1 1 1 QK:=by
 refine ⟨λ m i_ k_ a_ b_ hl hw hi hk hn => ?_,λ m i_ k_ r_ t_ p_ f_ l_ hl hw hi hk hn h0 => ?_,λ m i_ r_ s_ hl hw hi => ?_,λ m hl hw ht => ?_⟩
 ·obtain ⟨y0,rfl⟩:=RL hl hw
  obtain ⟨rfl,rfl⟩:=UM hi;obtain ⟨rfl,rfl⟩:=UM hk
  ·exact absurd rfl hn
 ·obtain ⟨y0,rfl⟩:=RL hl hw
  obtain ⟨rfl,rfl⟩:=UM hi;obtain ⟨rfl,rfl⟩:=UM hk
  ·exact absurd rfl hn
 ·obtain ⟨y0,rfl⟩:=RL hl hw
  obtain ⟨rfl,rfl⟩:=UM hi
  ·exact Agg _ _
 ·obtain ⟨y0,rfl⟩:=RL hl hw
  refine (Agi _).trans ?_;show y0=(y0*1)*1;grind
theorem yF (B:List (List Rat)) (hB:Sq 1 B):EQ 1 1 (QK B) λ A=>QK (DE A B 1):=by
 refine jI.mulR B λ m hl hw ht => ?_
 obtain ⟨y0,rfl⟩:=RL hl hw;obtain ⟨lh,rfl⟩:=RL hB.l hB.r;refine (Agf _ _).trans ?_;show _=(y0*1)*_;rw[yH];grind
theorem yG (A:List (List Rat)) (hA:Sq 1 A):QK (FM A 1)=QK A:=by
 obtain ⟨y0,rfl⟩:=RL hA.l hA.r;exact Agh _
def FG (y0 y1 y2 y3:Rat):Rat:=y0*y3-y1*y2
def QL (m:List (List Rat)):Rat:=FG (CX m 0 0) (CX m 0 1) (CX m 1 0) (CX m 1 1)
theorem yK (y0 y1 y2 y3:Rat):QL [[y0,y1],[y2,y3]]=FG y0 y1 y2 y3:=rfl
theorem gA {α:Type} {l:List α} (h:l.length=2) : ∃ x0 x1,l=[x0,x1]:=by
 match l,h with
 | [x0,x1],_=>exact ⟨x0,x1,rfl⟩
theorem RM {m:List (List Rat)} (h:m.length=2) (hw : ∀ r∈m,r.length=2) : ∃ y0 y1 y2 y3,m=[[y0,y1],[y2,y3]]:=by
 obtain ⟨r0,r1,rfl⟩:=gA h;obtain ⟨y0,y1,rfl⟩:=gA (hw r0 (by simp));obtain ⟨y2,y3,rfl⟩:=gA (hw r1 (by simp));exact ⟨y0,y1,y2,y3,rfl⟩
theorem UN {α:Type} {x0 x1 x:α} {i:Nat} (h:[x0,x1][i]? = some x):(i=0/\x=x0)\/(i=1/\x=x1):=by
 match i,h with
 | 0,h=>exact Or.inl ⟨rfl,(Option.some.inj h).symm⟩
 | 1,h=>exact Or.inr (⟨rfl,(Option.some.inj h).symm⟩)
 | i+2,h=>simp at h
theorem tU (y0 y1 y2 y3:Rat):FG y2 y3 y0 y1 = -FG y0 y1 y2 y3:=by simp only[FG]<;>grind
theorem Agj (y0 y1 y2 y3 P F Q:Rat):FG ((y0*P-y2*F)/Q) ((y1*P-y3*F)/Q) y2 y3=FG y0 y1 y2 y3*(P/Q):=by simp only[FG,Rat.div_def]<;>grind
theorem Agm (y0 y1 y2 y3 S:Rat):FG (y0*S) (y1*S) y2 y3=FG y0 y1 y2 y3*S:=by simp only[FG]<;>grind
theorem Agk (y0 y1 y2 y3 P F Q:Rat):FG y0 y1 ((y2*P-y0*F)/Q) ((y3*P-y1*F)/Q)=FG y0 y1 y2 y3*(P/Q):=by simp only[FG,Rat.div_def]<;>grind
theorem Agn (y0 y1 y2 y3 S:Rat):FG y0 y1 (y2*S) (y3*S)=FG y0 y1 y2 y3*S:=by simp only[FG]<;>grind
theorem Agp (y0 y1 y3:Rat):FG y0 y1 0 y3=y0*y3:=by simp only[FG]<;>grind
theorem Ago (y0 y1 y2 y3:Rat):FG y0 y2 y1 y3=FG y0 y1 y2 y3:=by simp only[FG]<;>grind
theorem Agl (y0 y1 y3 lh ov ow ox:Rat):FG (y0*lh+(y1*ow+0)) (y0*ov+(y1*ox+0)) (0*lh+(y3*ow+0)) (0*ov+(y3*ox+0))=y0*y3*FG lh ov ow ox:=by simp only[FG]<;>grind
theorem jJ:EQ 2 2 1 QL:=by
 refine ⟨λ m i_ k_ a_ b_ hl hw hi hk hn => ?_,λ m i_ k_ r_ t_ p_ f_ l_ hl hw hi hk hn h0 => ?_,λ m i_ r_ s_ hl hw hi => ?_,λ m hl hw ht => ?_⟩
 ·obtain ⟨y0,y1,y2,y3,rfl⟩:=RM hl hw
  rcases UN hi with ⟨rfl,rfl⟩|⟨rfl,rfl⟩<;>rcases UN hk with ⟨rfl,rfl⟩|⟨rfl,rfl⟩
  ·exact absurd rfl hn
  ·exact tU _ _ _ _
  ·exact tU _ _ _ _
  ·exact absurd rfl hn
 ·obtain ⟨y0,y1,y2,y3,rfl⟩:=RM hl hw
  rcases UN hi with ⟨rfl,rfl⟩|⟨rfl,rfl⟩<;>rcases UN hk with ⟨rfl,rfl⟩|⟨rfl,rfl⟩
  ·exact absurd rfl hn
  ·exact Agj _ _ _ _ _ _ _
  ·exact Agk _ _ _ _ _ _ _
  ·exact absurd rfl hn
 ·obtain ⟨y0,y1,y2,y3,rfl⟩:=RM hl hw
  rcases UN hi with ⟨rfl,rfl⟩|⟨rfl,rfl⟩
  ·exact Agm _ _ _ _ _
  ·exact Agn _ _ _ _ _
 ·obtain ⟨y0,y1,y2,y3,rfl⟩:=RM hl hw
  obtain rfl:y2=0:=(ht 1 (by omega)).2 0 (by omega);refine (Agp _ _ _).trans ?_;show y0*y3=(y0*(y3*1))*1;grind
theorem yI (B:List (List Rat)) (hB:Sq 2 B):EQ 2 2 (QL B) λ A=>QL (DE A B 2):=by
 refine jJ.mulR B λ m hl hw ht => ?_
 obtain ⟨y0,y1,y2,y3,rfl⟩:=RM hl hw;obtain ⟨lh,ov,ow,ox,rfl⟩:=RM hB.l hB.r;obtain rfl:y2=0:=(ht 1 (by omega)).2 0 (by omega);refine (Agl _ _ _ _ _ _ _).trans ?_;show _=(y0*(y3*1))*_;rw[yK];grind
theorem yJ (A:List (List Rat)) (hA:Sq 2 A):QL (FM A 2)=QL A:=by
 obtain ⟨y0,y1,y2,y3,rfl⟩:=RM hA.l hA.r;exact Ago _ _ _ _
def C9 (y0 y1 y2 y3 y4 y5 y6 y7 y8:Rat):Rat:=y0*(y4*y8-y5*y7)-y1*(y3*y8-y5*y6)+y2*(y3*y7-y4*y6)
def QM (m:List (List Rat)):Rat:=C9 (CX m 0 0) (CX m 0 1) (CX m 0 2) (CX m 1 0) (CX m 1 1) (CX m 1 2) (CX m 2 0) (CX m 2 1) (CX m 2 2)
theorem yN (y0 y1 y2 y3 y4 y5 y6 y7 y8:Rat):QM [[y0,y1,y2],[y3,y4,y5],[y6,y7,y8]]=C9 y0 y1 y2 y3 y4 y5 y6 y7 y8:=rfl
theorem Y9 {α:Type} {l:List α} (h:l.length=3) : ∃ x0 x1 x2,l=[x0,x1,x2]:=by
 match l,h with
 | [x0,x1,x2],_=>exact ⟨x0,x1,x2,rfl⟩
theorem RN {m:List (List Rat)} (h:m.length=3) (hw : ∀ r∈m,r.length=3) : ∃ y0 y1 y2 y3 y4 y5 y6 y7 y8,m=[[y0,y1,y2],[y3,y4,y5],[y6,y7,y8]]:=by
 obtain ⟨r0,r1,r2,rfl⟩:=Y9 h;obtain ⟨y0,y1,y2,rfl⟩:=Y9 (hw r0 (by simp));obtain ⟨y3,y4,y5,rfl⟩:=Y9 (hw r1 (by simp));obtain ⟨y6,y7,y8,rfl⟩:=Y9 (hw r2 (by simp));exact ⟨y0,y1,y2,y3,y4,y5,y6,y7,y8,rfl⟩
theorem UO {α:Type} {x0 x1 x2 x:α} {i:Nat} (h:[x0,x1,x2][i]? = some x):(i=0/\x=x0)\/(i=1/\x=x1)\/(i=2/\x=x2):=by
 match i,h with
 | 0,h=>exact Or.inl ⟨rfl,(Option.some.inj h).symm⟩
 | 1,h=>exact Or.inr (Or.inl ⟨rfl,(Option.some.inj h).symm⟩)
 | 2,h=>exact Or.inr (Or.inr (⟨rfl,(Option.some.inj h).symm⟩))
 | i+3,h=>simp at h
theorem tV (y0 y1 y2 y3 y4 y5 y6 y7 y8:Rat):C9 y3 y4 y5 y0 y1 y2 y6 y7 y8 = -C9 y0 y1 y2 y3 y4 y5 y6 y7 y8:=by simp only[C9]<;>grind
theorem tW (y0 y1 y2 y3 y4 y5 y6 y7 y8:Rat):C9 y6 y7 y8 y3 y4 y5 y0 y1 y2 = -C9 y0 y1 y2 y3 y4 y5 y6 y7 y8:=by simp only[C9]<;>grind
theorem tX (y0 y1 y2 y3 y4 y5 y6 y7 y8:Rat):C9 y0 y1 y2 y6 y7 y8 y3 y4 y5 = -C9 y0 y1 y2 y3 y4 y5 y6 y7 y8:=by simp only[C9]<;>grind
theorem Agq (y0 y1 y2 y3 y4 y5 y6 y7 y8 P F Q:Rat):C9 ((y0*P-y3*F)/Q) ((y1*P-y4*F)/Q) ((y2*P-y5*F)/Q) y3 y4 y5 y6 y7 y8=C9 y0 y1 y2 y3 y4 y5 y6 y7 y8*(P/Q):=by simp only[C9,Rat.div_def]<;>grind
theorem Agr (y0 y1 y2 y3 y4 y5 y6 y7 y8 P F Q:Rat):C9 ((y0*P-y6*F)/Q) ((y1*P-y7*F)/Q) ((y2*P-y8*F)/Q) y3 y4 y5 y6 y7 y8=C9 y0 y1 y2 y3 y4 y5 y6 y7 y8*(P/Q):=by simp only[C9,Rat.div_def]<;>grind
theorem Agx (y0 y1 y2 y3 y4 y5 y6 y7 y8 S:Rat):C9 (y0*S) (y1*S) (y2*S) y3 y4 y5 y6 y7 y8=C9 y0 y1 y2 y3 y4 y5 y6 y7 y8*S:=by simp only[C9]<;>grind
theorem Ags (y0 y1 y2 y3 y4 y5 y6 y7 y8 P F Q:Rat):C9 y0 y1 y2 ((y3*P-y0*F)/Q) ((y4*P-y1*F)/Q) ((y5*P-y2*F)/Q) y6 y7 y8=C9 y0 y1 y2 y3 y4 y5 y6 y7 y8*(P/Q):=by simp only[C9,Rat.div_def]<;>grind
theorem Agt (y0 y1 y2 y3 y4 y5 y6 y7 y8 P F Q:Rat):C9 y0 y1 y2 ((y3*P-y6*F)/Q) ((y4*P-y7*F)/Q) ((y5*P-y8*F)/Q) y6 y7 y8=C9 y0 y1 y2 y3 y4 y5 y6 y7 y8*(P/Q):=by simp only[C9,Rat.div_def]<;>grind
theorem Agy (y0 y1 y2 y3 y4 y5 y6 y7 y8 S:Rat):C9 y0 y1 y2 (y3*S) (y4*S) (y5*S) y6 y7 y8=C9 y0 y1 y2 y3 y4 y5 y6 y7 y8*S:=by simp only[C9]<;>grind
theorem Agu (y0 y1 y2 y3 y4 y5 y6 y7 y8 P F Q:Rat):C9 y0 y1 y2 y3 y4 y5 ((y6*P-y0*F)/Q) ((y7*P-y1*F)/Q) ((y8*P-y2*F)/Q)=C9 y0 y1 y2 y3 y4 y5 y6 y7 y8*(P/Q):=by simp only[C9,Rat.div_def]<;>grind
theorem Agv (y0 y1 y2 y3 y4 y5 y6 y7 y8 P F Q:Rat):C9 y0 y1 y2 y3 y4 y5 ((y6*P-y3*F)/Q) ((y7*P-y4*F)/Q) ((y8*P-y5*F)/Q)=C9 y0 y1 y2 y3 y4 y5 y6 y7 y8*(P/Q):=by simp only[C9,Rat.div_def]<;>grind
theorem Agz (y0 y1 y2 y3 y4 y5 y6 y7 y8 S:Rat):C9 y0 y1 y2 y3 y4 y5 (y6*S) (y7*S) (y8*S)=C9 y0 y1 y2 y3 y4 y5 y6 y7 y8*S:=by simp only[C9]<;>grind
theorem AgB (y0 y1 y2 y4 y5 y8:Rat):C9 y0 y1 y2 0 y4 y5 0 0 y8=y0*y4*y8:=by simp only[C9]<;>grind
theorem AgA (y0 y1 y2 y3 y4 y5 y6 y7 y8:Rat):C9 y0 y3 y6 y1 y4 y7 y2 y5 y8=C9 y0 y1 y2 y3 y4 y5 y6 y7 y8:=by simp only[C9]<;>grind
theorem Agw (y0 y1 y2 y4 y5 y8 lh ov vi ow ox vj vk vn vo:Rat):C9 (y0*lh+(y1*ow+(y2*vk+0))) (y0*ov+(y1*ox+(y2*vn+0))) (y0*vi+(y1*vj+(y2*vo+0))) (0*lh+(y4*ow+(y5*vk+0))) (0*ov+(y4*ox+(y5*vn+0))) (0*vi+(y4*vj+(y5*vo+0))) (0*lh+(0*ow+(y8*vk+0))) (0*ov+(0*ox+(y8*vn+0))) (0*vi+(0*vj+(y8*vo+0)))=y0*y4*y8*C9 lh ov vi ow ox vj vk vn vo:=by simp only[C9]<;>grind
theorem jK:EQ 3 3 1 QM:=by
 refine ⟨λ m i_ k_ a_ b_ hl hw hi hk hn => ?_,λ m i_ k_ r_ t_ p_ f_ l_ hl hw hi hk hn h0 => ?_,λ m i_ r_ s_ hl hw hi => ?_,λ m hl hw ht => ?_⟩
 ·obtain ⟨y0,y1,y2,y3,y4,y5,y6,y7,y8,rfl⟩:=RN hl hw
  rcases UO hi with ⟨rfl,rfl⟩|⟨rfl,rfl⟩|⟨rfl,rfl⟩<;>rcases UO hk with ⟨rfl,rfl⟩|⟨rfl,rfl⟩|⟨rfl,rfl⟩
  ·exact absurd rfl hn
  ·exact tV _ _ _ _ _ _ _ _ _
  ·exact tW _ _ _ _ _ _ _ _ _
  ·exact tV _ _ _ _ _ _ _ _ _
  ·exact absurd rfl hn
  ·exact tX _ _ _ _ _ _ _ _ _
  ·exact tW _ _ _ _ _ _ _ _ _
  ·exact tX _ _ _ _ _ _ _ _ _
  ·exact absurd rfl hn
 ·obtain ⟨y0,y1,y2,y3,y4,y5,y6,y7,y8,rfl⟩:=RN hl hw
  rcases UO hi with ⟨rfl,rfl⟩|⟨rfl,rfl⟩|⟨rfl,rfl⟩<;>rcases UO hk with ⟨rfl,rfl⟩|⟨rfl,rfl⟩|⟨rfl,rfl⟩
  ·exact absurd rfl hn
  ·exact Agq _ _ _ _ _ _ _ _ _ _ _ _
  ·exact Agr _ _ _ _ _ _ _ _ _ _ _ _
  ·exact Ags _ _ _ _ _ _ _ _ _ _ _ _
  ·exact absurd rfl hn
  ·exact Agt _ _ _ _ _ _ _ _ _ _ _ _
  ·exact Agu _ _ _ _ _ _ _ _ _ _ _ _
  ·exact Agv _ _ _ _ _ _ _ _ _ _ _ _
  ·exact absurd rfl hn
 ·obtain ⟨y0,y1,y2,y3,y4,y5,y6,y7,y8,rfl⟩:=RN hl hw
  rcases UO hi with ⟨rfl,rfl⟩|⟨rfl,rfl⟩|⟨rfl,rfl⟩
  ·exact Agx _ _ _ _ _ _ _ _ _ _
  ·exact Agy _ _ _ _ _ _ _ _ _ _
  ·exact Agz _ _ _ _ _ _ _ _ _ _
 ·obtain ⟨y0,y1,y2,y3,y4,y5,y6,y7,y8,rfl⟩:=RN hl hw
  obtain rfl:y3=0:=(ht 1 (by omega)).2 0 (by omega);obtain rfl:y6=0:=(ht 2 (by omega)).2 0 (by omega);obtain rfl:y7=0:=(ht 2 (by omega)).2 1 (by omega);refine (AgB _ _ _ _ _ _).trans ?_;show y0*y4*y8=(y0*(y4*(y8*1)))*1;grind
theorem yL (B:List (List Rat)) (hB:Sq 3 B):EQ 3 3 (QM B) λ A=>QM (DE A B 3):=by
 refine jK.mulR B λ m hl hw ht => ?_
 obtain ⟨y0,y1,y2,y3,y4,y5,y6,y7,y8,rfl⟩:=RN hl hw;obtain ⟨lh,ov,vi,ow,ox,vj,vk,vn,vo,rfl⟩:=RN hB.l hB.r;obtain rfl:y3=0:=(ht 1 (by omega)).2 0 (by omega);obtain rfl:y6=0:=(ht 2 (by omega)).2 0 (by omega);obtain rfl:y7=0:=(ht 2 (by omega)).2 1 (by omega);refine (Agw _ _ _ _ _ _ _ _ _ _ _ _ _ _ _).trans ?_;show _=(y0*(y4*(y8*1)))*_;rw[yN];grind
theorem yM (A:List (List Rat)) (hA:Sq 3 A):QM (FM A 3)=QM A:=by
 obtain ⟨y0,y1,y2,y3,y4,y5,y6,y7,y8,rfl⟩:=RN hA.l hA.r;exact AgA _ _ _ _ _ _ _ _ _
def BX (y0 y1 y2 y3 y4 y5 y6 y7 y8 y9 o8 s8 u4 u5 u6 o9:Rat):Rat:=(y0*y5-y4*y1)*(o8*o9-u6*s8)-(y0*y6-y4*y2)*(y9*o9-u5*s8)+(y0*y7-y4*y3)*(y9*u6-u5*o8)+(y1*y6-y5*y2)*(y8*o9-u4*s8)-(y1*y7-y5*y3)*(y8*u6-u4*o8)+(y2*y7-y6*y3)*(y8*u5-u4*y9)
def QN (m:List (List Rat)):Rat:=BX (CX m 0 0) (CX m 0 1) (CX m 0 2) (CX m 0 3) (CX m 1 0) (CX m 1 1) (CX m 1 2) (CX m 1 3) (CX m 2 0) (CX m 2 1) (CX m 2 2) (CX m 2 3) (CX m 3 0) (CX m 3 1) (CX m 3 2) (CX m 3 3)
theorem yQ (y0 y1 y2 y3 y4 y5 y6 y7 y8 y9 o8 s8 u4 u5 u6 o9:Rat):QN [[y0,y1,y2,y3],[y4,y5,y6,y7],[y8,y9,o8,s8],[u4,u5,u6,o9]]=BX y0 y1 y2 y3 y4 y5 y6 y7 y8 y9 o8 s8 u4 u5 u6 o9:=rfl
theorem VT {α:Type} {l:List α} (h:l.length=4) : ∃ x0 x1 x2 x3,l=[x0,x1,x2,x3]:=by
 match l,h with
 | [x0,x1,x2,x3],_=>exact ⟨x0,x1,x2,x3,rfl⟩
theorem RO {m:List (List Rat)} (h:m.length=4) (hw : ∀ r∈m,r.length=4) : ∃ y0 y1 y2 y3 y4 y5 y6 y7 y8 y9 o8 s8 u4 u5 u6 o9,m=[[y0,y1,y2,y3],[y4,y5,y6,y7],[y8,y9,o8,s8],[u4,u5,u6,o9]]:=by
 obtain ⟨r0,r1,r2,r3,rfl⟩:=VT h;obtain ⟨y0,y1,y2,y3,rfl⟩:=VT (hw r0 (by simp));obtain ⟨y4,y5,y6,y7,rfl⟩:=VT (hw r1 (by simp));obtain ⟨y8,y9,o8,s8,rfl⟩:=VT (hw r2 (by simp));obtain ⟨u4,u5,u6,o9,rfl⟩:=VT (hw r3 (by simp));exact ⟨y0,y1,y2,y3,y4,y5,y6,y7,y8,y9,o8,s8,u4,u5,u6,o9,rfl⟩
theorem UP {α:Type} {x0 x1 x2 x3 x:α} {i:Nat} (h:[x0,x1,x2,x3][i]? = some x):(i=0/\x=x0)\/(i=1/\x=x1)\/(i=2/\x=x2)\/(i=3/\x=x3):=by
 match i,h with
 | 0,h=>exact Or.inl ⟨rfl,(Option.some.inj h).symm⟩
 | 1,h=>exact Or.inr (Or.inl ⟨rfl,(Option.some.inj h).symm⟩)
 | 2,h=>exact Or.inr (Or.inr (Or.inl ⟨rfl,(Option.some.inj h).symm⟩))
 | 3,h=>exact Or.inr (Or.inr (Or.inr (⟨rfl,(Option.some.inj h).symm⟩)))
 | i+4,h=>simp at h
theorem tY (y0 y1 y2 y3 y4 y5 y6 y7 y8 y9 o8 s8 u4 u5 u6 o9:Rat):BX y4 y5 y6 y7 y0 y1 y2 y3 y8 y9 o8 s8 u4 u5 u6 o9 = -BX y0 y1 y2 y3 y4 y5 y6 y7 y8 y9 o8 s8 u4 u5 u6 o9:=by simp only[BX]<;>grind
theorem tZ (y0 y1 y2 y3 y4 y5 y6 y7 y8 y9 o8 s8 u4 u5 u6 o9:Rat):BX y8 y9 o8 s8 y4 y5 y6 y7 y0 y1 y2 y3 u4 u5 u6 o9 = -BX y0 y1 y2 y3 y4 y5 y6 y7 y8 y9 o8 s8 u4 u5 u6 o9:=by simp only[BX]<;>grind
theorem uA (y0 y1 y2 y3 y4 y5 y6 y7 y8 y9 o8 s8 u4 u5 u6 o9:Rat):BX u4 u5 u6 o9 y4 y5 y6 y7 y8 y9 o8 s8 y0 y1 y2 y3 = -BX y0 y1 y2 y3 y4 y5 y6 y7 y8 y9 o8 s8 u4 u5 u6 o9:=by simp only[BX]<;>grind
theorem uB (y0 y1 y2 y3 y4 y5 y6 y7 y8 y9 o8 s8 u4 u5 u6 o9:Rat):BX y0 y1 y2 y3 y8 y9 o8 s8 y4 y5 y6 y7 u4 u5 u6 o9 = -BX y0 y1 y2 y3 y4 y5 y6 y7 y8 y9 o8 s8 u4 u5 u6 o9:=by simp only[BX]<;>grind
theorem uC (y0 y1 y2 y3 y4 y5 y6 y7 y8 y9 o8 s8 u4 u5 u6 o9:Rat):BX y0 y1 y2 y3 u4 u5 u6 o9 y8 y9 o8 s8 y4 y5 y6 y7 = -BX y0 y1 y2 y3 y4 y5 y6 y7 y8 y9 o8 s8 u4 u5 u6 o9:=by simp only[BX]<;>grind
theorem uD (y0 y1 y2 y3 y4 y5 y6 y7 y8 y9 o8 s8 u4 u5 u6 o9:Rat):BX y0 y1 y2 y3 y4 y5 y6 y7 u4 u5 u6 o9 y8 y9 o8 s8 = -BX y0 y1 y2 y3 y4 y5 y6 y7 y8 y9 o8 s8 u4 u5 u6 o9:=by simp only[BX]<;>grind
theorem AgC (y0 y1 y2 y3 y4 y5 y6 y7 y8 y9 o8 s8 u4 u5 u6 o9 P F Q:Rat):BX ((y0*P-y4*F)/Q) ((y1*P-y5*F)/Q) ((y2*P-y6*F)/Q) ((y3*P-y7*F)/Q) y4 y5 y6 y7 y8 y9 o8 s8 u4 u5 u6 o9=BX y0 y1 y2 y3 y4 y5 y6 y7 y8 y9 o8 s8 u4 u5 u6 o9*(P/Q):=by simp only[BX,Rat.div_def]<;>grind
theorem AgD (y0 y1 y2 y3 y4 y5 y6 y7 y8 y9 o8 s8 u4 u5 u6 o9 P F Q:Rat):BX ((y0*P-y8*F)/Q) ((y1*P-y9*F)/Q) ((y2*P-o8*F)/Q) ((y3*P-s8*F)/Q) y4 y5 y6 y7 y8 y9 o8 s8 u4 u5 u6 o9=BX y0 y1 y2 y3 y4 y5 y6 y7 y8 y9 o8 s8 u4 u5 u6 o9*(P/Q):=by simp only[BX,Rat.div_def]<;>grind
theorem AgE (y0 y1 y2 y3 y4 y5 y6 y7 y8 y9 o8 s8 u4 u5 u6 o9 P F Q:Rat):BX ((y0*P-u4*F)/Q) ((y1*P-u5*F)/Q) ((y2*P-u6*F)/Q) ((y3*P-o9*F)/Q) y4 y5 y6 y7 y8 y9 o8 s8 u4 u5 u6 o9=BX y0 y1 y2 y3 y4 y5 y6 y7 y8 y9 o8 s8 u4 u5 u6 o9*(P/Q):=by simp only[BX,Rat.div_def]<;>grind
theorem AgP (y0 y1 y2 y3 y4 y5 y6 y7 y8 y9 o8 s8 u4 u5 u6 o9 S:Rat):BX (y0*S) (y1*S) (y2*S) (y3*S) y4 y5 y6 y7 y8 y9 o8 s8 u4 u5 u6 o9=BX y0 y1 y2 y3 y4 y5 y6 y7 y8 y9 o8 s8 u4 u5 u6 o9*S:=by simp only[BX]<;>grind
theorem AgF (y0 y1 y2 y3 y4 y5 y6 y7 y8 y9 o8 s8 u4 u5 u6 o9 P F Q:Rat):BX y0 y1 y2 y3 ((y4*P-y0*F)/Q) ((y5*P-y1*F)/Q) ((y6*P-y2*F)/Q) ((y7*P-y3*F)/Q) y8 y9 o8 s8 u4 u5 u6 o9=BX y0 y1 y2 y3 y4 y5 y6 y7 y8 y9 o8 s8 u4 u5 u6 o9*(P/Q):=by simp only[BX,Rat.div_def]<;>grind
theorem AgG (y0 y1 y2 y3 y4 y5 y6 y7 y8 y9 o8 s8 u4 u5 u6 o9 P F Q:Rat):BX y0 y1 y2 y3 ((y4*P-y8*F)/Q) ((y5*P-y9*F)/Q) ((y6*P-o8*F)/Q) ((y7*P-s8*F)/Q) y8 y9 o8 s8 u4 u5 u6 o9=BX y0 y1 y2 y3 y4 y5 y6 y7 y8 y9 o8 s8 u4 u5 u6 o9*(P/Q):=by simp only[BX,Rat.div_def]<;>grind
theorem AgH (y0 y1 y2 y3 y4 y5 y6 y7 y8 y9 o8 s8 u4 u5 u6 o9 P F Q:Rat):BX y0 y1 y2 y3 ((y4*P-u4*F)/Q) ((y5*P-u5*F)/Q) ((y6*P-u6*F)/Q) ((y7*P-o9*F)/Q) y8 y9 o8 s8 u4 u5 u6 o9=BX y0 y1 y2 y3 y4 y5 y6 y7 y8 y9 o8 s8 u4 u5 u6 o9*(P/Q):=by simp only[BX,Rat.div_def]<;>grind
theorem AgQ (y0 y1 y2 y3 y4 y5 y6 y7 y8 y9 o8 s8 u4 u5 u6 o9 S:Rat):BX y0 y1 y2 y3 (y4*S) (y5*S) (y6*S) (y7*S) y8 y9 o8 s8 u4 u5 u6 o9=BX y0 y1 y2 y3 y4 y5 y6 y7 y8 y9 o8 s8 u4 u5 u6 o9*S:=by simp only[BX]<;>grind
theorem AgI (y0 y1 y2 y3 y4 y5 y6 y7 y8 y9 o8 s8 u4 u5 u6 o9 P F Q:Rat):BX y0 y1 y2 y3 y4 y5 y6 y7 ((y8*P-y0*F)/Q) ((y9*P-y1*F)/Q) ((o8*P-y2*F)/Q) ((s8*P-y3*F)/Q) u4 u5 u6 o9=BX y0 y1 y2 y3 y4 y5 y6 y7 y8 y9 o8 s8 u4 u5 u6 o9*(P/Q):=by simp only[BX,Rat.div_def]<;>grind
theorem AgJ (y0 y1 y2 y3 y4 y5 y6 y7 y8 y9 o8 s8 u4 u5 u6 o9 P F Q:Rat):BX y0 y1 y2 y3 y4 y5 y6 y7 ((y8*P-y4*F)/Q) ((y9*P-y5*F)/Q) ((o8*P-y6*F)/Q) ((s8*P-y7*F)/Q) u4 u5 u6 o9=BX y0 y1 y2 y3 y4 y5 y6 y7 y8 y9 o8 s8 u4 u5 u6 o9*(P/Q):=by simp only[BX,Rat.div_def]<;>grind
theorem AgK (y0 y1 y2 y3 y4 y5 y6 y7 y8 y9 o8 s8 u4 u5 u6 o9 P F Q:Rat):BX y0 y1 y2 y3 y4 y5 y6 y7 ((y8*P-u4*F)/Q) ((y9*P-u5*F)/Q) ((o8*P-u6*F)/Q) ((s8*P-o9*F)/Q) u4 u5 u6 o9=BX y0 y1 y2 y3 y4 y5 y6 y7 y8 y9 o8 s8 u4 u5 u6 o9*(P/Q):=by simp only[BX,Rat.div_def]<;>grind
theorem AgR (y0 y1 y2 y3 y4 y5 y6 y7 y8 y9 o8 s8 u4 u5 u6 o9 S:Rat):BX y0 y1 y2 y3 y4 y5 y6 y7 (y8*S) (y9*S) (o8*S) (s8*S) u4 u5 u6 o9=BX y0 y1 y2 y3 y4 y5 y6 y7 y8 y9 o8 s8 u4 u5 u6 o9*S:=by simp only[BX]<;>grind
theorem AgL (y0 y1 y2 y3 y4 y5 y6 y7 y8 y9 o8 s8 u4 u5 u6 o9 P F Q:Rat):BX y0 y1 y2 y3 y4 y5 y6 y7 y8 y9 o8 s8 ((u4*P-y0*F)/Q) ((u5*P-y1*F)/Q) ((u6*P-y2*F)/Q) ((o9*P-y3*F)/Q)=BX y0 y1 y2 y3 y4 y5 y6 y7 y8 y9 o8 s8 u4 u5 u6 o9*(P/Q):=by simp only[BX,Rat.div_def]<;>grind
theorem AgM (y0 y1 y2 y3 y4 y5 y6 y7 y8 y9 o8 s8 u4 u5 u6 o9 P F Q:Rat):BX y0 y1 y2 y3 y4 y5 y6 y7 y8 y9 o8 s8 ((u4*P-y4*F)/Q) ((u5*P-y5*F)/Q) ((u6*P-y6*F)/Q) ((o9*P-y7*F)/Q)=BX y0 y1 y2 y3 y4 y5 y6 y7 y8 y9 o8 s8 u4 u5 u6 o9*(P/Q):=by simp only[BX,Rat.div_def]<;>grind
theorem AgN (y0 y1 y2 y3 y4 y5 y6 y7 y8 y9 o8 s8 u4 u5 u6 o9 P F Q:Rat):BX y0 y1 y2 y3 y4 y5 y6 y7 y8 y9 o8 s8 ((u4*P-y8*F)/Q) ((u5*P-y9*F)/Q) ((u6*P-o8*F)/Q) ((o9*P-s8*F)/Q)=BX y0 y1 y2 y3 y4 y5 y6 y7 y8 y9 o8 s8 u4 u5 u6 o9*(P/Q):=by simp only[BX,Rat.div_def]<;>grind
theorem AgS (y0 y1 y2 y3 y4 y5 y6 y7 y8 y9 o8 s8 u4 u5 u6 o9 S:Rat):BX y0 y1 y2 y3 y4 y5 y6 y7 y8 y9 o8 s8 (u4*S) (u5*S) (u6*S) (o9*S)=BX y0 y1 y2 y3 y4 y5 y6 y7 y8 y9 o8 s8 u4 u5 u6 o9*S:=by simp only[BX]<;>grind
theorem AgU (y0 y1 y2 y3 y5 y6 y7 o8 s8 o9:Rat):BX y0 y1 y2 y3 0 y5 y6 y7 0 0 o8 s8 0 0 0 o9=y0*y5*o8*o9:=by simp only[BX]<;>grind
theorem AgT (y0 y1 y2 y3 y4 y5 y6 y7 y8 y9 o8 s8 u4 u5 u6 o9:Rat):BX y0 y4 y8 u4 y1 y5 y9 u5 y2 y6 o8 u6 y3 y7 s8 o9=BX y0 y1 y2 y3 y4 y5 y6 y7 y8 y9 o8 s8 u4 u5 u6 o9:=by simp only[BX]<;>grind
theorem AgO (y0 y1 y2 y3 y5 y6 y7 o8 s8 o9 lh ov vi Em ow ox vj En vk vn vo Eo Ep Er Es Et:Rat):BX (y0*lh+(y1*ow+(y2*vk+(y3*Ep+0)))) (y0*ov+(y1*ox+(y2*vn+(y3*Er+0)))) (y0*vi+(y1*vj+(y2*vo+(y3*Es+0)))) (y0*Em+(y1*En+(y2*Eo+(y3*Et+0)))) (0*lh+(y5*ow+(y6*vk+(y7*Ep+0)))) (0*ov+(y5*ox+(y6*vn+(y7*Er+0)))) (0*vi+(y5*vj+(y6*vo+(y7*Es+0)))) (0*Em+(y5*En+(y6*Eo+(y7*Et+0)))) (0*lh+(0*ow+(o8*vk+(s8*Ep+0)))) (0*ov+(0*ox+(o8*vn+(s8*Er+0)))) (0*vi+(0*vj+(o8*vo+(s8*Es+0)))) (0*Em+(0*En+(o8*Eo+(s8*Et+0)))) (0*lh+(0*ow+(0*vk+(o9*Ep+0)))) (0*ov+(0*ox+(0*vn+(o9*Er+0)))) (0*vi+(0*vj+(0*vo+(o9*Es+0)))) (0*Em+(0*En+(0*Eo+(o9*Et+0))))=y0*y5*o8*o9*BX lh ov vi Em ow ox vj En vk vn vo Eo Ep Er Es Et:=by simp only[BX]<;>grind
theorem jL:EQ 4 4 1 QN:=by
 refine ⟨λ m i_ k_ a_ b_ hl hw hi hk hn => ?_,λ m i_ k_ r_ t_ p_ f_ l_ hl hw hi hk hn h0 => ?_,λ m i_ r_ s_ hl hw hi => ?_,λ m hl hw ht => ?_⟩
 ·obtain ⟨y0,y1,y2,y3,y4,y5,y6,y7,y8,y9,o8,s8,u4,u5,u6,o9,rfl⟩:=RO hl hw
  rcases UP hi with ⟨rfl,rfl⟩|⟨rfl,rfl⟩|⟨rfl,rfl⟩|⟨rfl,rfl⟩<;>rcases UP hk with ⟨rfl,rfl⟩|⟨rfl,rfl⟩|⟨rfl,rfl⟩|⟨rfl,rfl⟩
  ·exact absurd rfl hn
  ·exact tY _ _ _ _ _ _ _ _ _ _ _ _ _ _ _ _
  ·exact tZ _ _ _ _ _ _ _ _ _ _ _ _ _ _ _ _
  ·exact uA _ _ _ _ _ _ _ _ _ _ _ _ _ _ _ _
  ·exact tY _ _ _ _ _ _ _ _ _ _ _ _ _ _ _ _
  ·exact absurd rfl hn
  ·exact uB _ _ _ _ _ _ _ _ _ _ _ _ _ _ _ _
  ·exact uC _ _ _ _ _ _ _ _ _ _ _ _ _ _ _ _
  ·exact tZ _ _ _ _ _ _ _ _ _ _ _ _ _ _ _ _
  ·exact uB _ _ _ _ _ _ _ _ _ _ _ _ _ _ _ _
  ·exact absurd rfl hn
  ·exact uD _ _ _ _ _ _ _ _ _ _ _ _ _ _ _ _
  ·exact uA _ _ _ _ _ _ _ _ _ _ _ _ _ _ _ _
  ·exact uC _ _ _ _ _ _ _ _ _ _ _ _ _ _ _ _
  ·exact uD _ _ _ _ _ _ _ _ _ _ _ _ _ _ _ _
  ·exact absurd rfl hn
 ·obtain ⟨y0,y1,y2,y3,y4,y5,y6,y7,y8,y9,o8,s8,u4,u5,u6,o9,rfl⟩:=RO hl hw
  rcases UP hi with ⟨rfl,rfl⟩|⟨rfl,rfl⟩|⟨rfl,rfl⟩|⟨rfl,rfl⟩<;>rcases UP hk with ⟨rfl,rfl⟩|⟨rfl,rfl⟩|⟨rfl,rfl⟩|⟨rfl,rfl⟩
  ·exact absurd rfl hn
  ·exact AgC _ _ _ _ _ _ _ _ _ _ _ _ _ _ _ _ _ _ _
  ·exact AgD _ _ _ _ _ _ _ _ _ _ _ _ _ _ _ _ _ _ _
  ·exact AgE _ _ _ _ _ _ _ _ _ _ _ _ _ _ _ _ _ _ _
  ·exact AgF _ _ _ _ _ _ _ _ _ _ _ _ _ _ _ _ _ _ _
  ·exact absurd rfl hn
  ·exact AgG _ _ _ _ _ _ _ _ _ _ _ _ _ _ _ _ _ _ _
  ·exact AgH _ _ _ _ _ _ _ _ _ _ _ _ _ _ _ _ _ _ _
  ·exact AgI _ _ _ _ _ _ _ _ _ _ _ _ _ _ _ _ _ _ _
  ·exact AgJ _ _ _ _ _ _ _ _ _ _ _ _ _ _ _ _ _ _ _
  ·exact absurd rfl hn
  ·exact AgK _ _ _ _ _ _ _ _ _ _ _ _ _ _ _ _ _ _ _
  ·exact AgL _ _ _ _ _ _ _ _ _ _ _ _ _ _ _ _ _ _ _
  ·exact AgM _ _ _ _ _ _ _ _ _ _ _ _ _ _ _ _ _ _ _
  ·exact AgN _ _ _ _ _ _ _ _ _ _ _ _ _ _ _ _ _ _ _
  ·exact absurd rfl hn
 ·obtain ⟨y0,y1,y2,y3,y4,y5,y6,y7,y8,y9,o8,s8,u4,u5,u6,o9,rfl⟩:=RO hl hw
  rcases UP hi with ⟨rfl,rfl⟩|⟨rfl,rfl⟩|⟨rfl,rfl⟩|⟨rfl,rfl⟩
  ·exact AgP _ _ _ _ _ _ _ _ _ _ _ _ _ _ _ _ _
  ·exact AgQ _ _ _ _ _ _ _ _ _ _ _ _ _ _ _ _ _
  ·exact AgR _ _ _ _ _ _ _ _ _ _ _ _ _ _ _ _ _
  ·exact AgS _ _ _ _ _ _ _ _ _ _ _ _ _ _ _ _ _
 ·obtain ⟨y0,y1,y2,y3,y4,y5,y6,y7,y8,y9,o8,s8,u4,u5,u6,o9,rfl⟩:=RO hl hw
  obtain rfl:y4=0:=(ht 1 (by omega)).2 0 (by omega);obtain rfl:y8=0:=(ht 2 (by omega)).2 0 (by omega);obtain rfl:y9=0:=(ht 2 (by omega)).2 1 (by omega);obtain rfl:u4=0:=(ht 3 (by omega)).2 0 (by omega);obtain rfl:u5=0:=(ht 3 (by omega)).2 1 (by omega);obtain rfl:u6=0:=(ht 3 (by omega)).2 2 (by omega);refine (AgU _ _ _ _ _ _ _ _ _ _).trans ?_;show y0*y5*o8*o9=(y0*(y5*(o8*(o9*1))))*1;grind
theorem yO (B:List (List Rat)) (hB:Sq 4 B):EQ 4 4 (QN B) λ A=>QN (DE A B 4):=by
 refine jL.mulR B λ m hl hw ht => ?_
 obtain ⟨y0,y1,y2,y3,y4,y5,y6,y7,y8,y9,o8,s8,u4,u5,u6,o9,rfl⟩:=RO hl hw;obtain ⟨lh,ov,vi,Em,ow,ox,vj,En,vk,vn,vo,Eo,Ep,Er,Es,Et,rfl⟩:=RO hB.l hB.r;obtain rfl:y4=0:=(ht 1 (by omega)).2 0 (by omega);obtain rfl:y8=0:=(ht 2 (by omega)).2 0 (by omega);obtain rfl:y9=0:=(ht 2 (by omega)).2 1 (by omega);obtain rfl:u4=0:=(ht 3 (by omega)).2 0 (by omega);obtain rfl:u5=0:=(ht 3 (by omega)).2 1 (by omega);obtain rfl:u6=0:=(ht 3 (by omega)).2 2 (by omega);refine (AgO _ _ _ _ _ _ _ _ _ _ _ _ _ _ _ _ _ _ _ _ _ _ _ _ _ _).trans ?_;show _=(y0*(y5*(o8*(o9*1))))*_;rw[yQ];grind
theorem yP (A:List (List Rat)) (hA:Sq 4 A):QN (FM A 4)=QN A:=by
 obtain ⟨y0,y1,y2,y3,y4,y5,y6,y7,y8,y9,o8,s8,u4,u5,u6,o9,rfl⟩:=RO hA.l hA.r;exact AgT _ _ _ _ _ _ _ _ _ _ _ _ _ _ _ _
theorem Wj {n:Nat} (h:1<=n/\n<=4) : ∃ D:List (List Rat)->Rat,EQ n n 1 D/\(∀ B,Sq n B->EQ n n (D B) λ A=>D (DE A B n)) /\ ∀ A,Sq n A->D (FM A n)=D A:=by
 have:n=1\/n=2\/n=3\/n=4:=by omega
 rcases this with rfl|rfl|rfl|rfl
 ·exact ⟨QK,jI,yF,yG⟩
 ·exact ⟨QL,jJ,yI,yJ⟩
 ·exact ⟨QM,jK,yL,yM⟩
 ·exact ⟨QN,jL,yO,yP⟩
end Go.g6
namespace Go.g6
open F
attribute [local irreducible] AA AF AM AD CZ AX A9 BG B8 B6 CT D8 B9 BF B1 CR AB A6 AJ pw BN BH CQ CK C6 C7 CW BV D4
variable {L:Lib}
set_option maxHeartbeats 1000000
def DC (a b:Int):Int:=if a<b then -1 else if b<a then 1 else 0
theorem H3 {a b:Int} (h:a<b) : -1=DC a b:=by unfold DC;rw[if_pos h]
theorem N5 {a b:Int} (h:b<a):1=DC a b:=by unfold DC;rw[if_neg (by omega),if_pos h]
theorem Q2 {a b:Int} (h:a=b):0=DC a b:=by unfold DC;rw[if_neg (by omega),if_neg (by omega)]
theorem Wt (N:e9 L) (a:Int):Ev L 58 [.int .i64 a] (.bool false):=by
 refine Ev.x N.K9 rfl rfl ?_;(repeat' ((first|(apply AG<;>intro hc<;>try omega)|apply AC)<;>conv=>whnf))
 exact ES rfl
theorem Wu (N:e9 L) (a:Int):Ev L 59 [.int .u32 a] (.bool false):=by
 refine Ev.x N.LA rfl rfl ?_;(repeat' ((first|(apply AG<;>intro hc<;>try omega)|apply AC)<;>conv=>whnf))
 exact ES rfl
theorem Xh (N:e9 L) (a b:Int):Ev L 60 [.int .i64 a,.int .i64 b] (.int .i64 (DC a b)):=by
 refine Ev.x N.K7 rfl rfl ?_;(repeat' ((first|(apply AG<;>intro hc<;>try omega)|apply AC|refine AE (Wt N _) ?_)<;>conv=>whnf))
 ·exact EI (H3 (by omega))
 ·exact EI (N5 (by omega))
 ·exact EI (Q2 (by omega))
theorem Xi (N:e9 L) (a b:Int):Ev L 61 [.int .u32 a,.int .u32 b] (.int .i64 (DC a b)):=by
 refine Ev.x N.K8 rfl rfl ?_;(repeat' ((first|(apply AG<;>intro hc<;>try omega)|apply AC|refine AE (Wu N _) ?_)<;>conv=>whnf))
 ·exact EI (H3 (by omega))
 ·exact EI (N5 (by omega))
 ·exact EI (Q2 (by omega))
theorem nN (N:e9 L) (l:List Nat) (q:Bool) (hl:l.length<=1099511627776):Ev L 62 [.sl q (l.map AL)] (.sl false (l.map AL)):=by
 cases l with
 | nil =>
  refine FV.nil N.HK (FV.x N.HK rfl rfl ?_) (FV.x N.HK rfl rfl ?_)
  ·(repeat' (apply AC<;>conv=>whnf))
   exact AY rfl (by simp [A7,GL])
  ·(repeat' (apply AC<;>conv=>whnf))
   refine WT (enc:=AL) (l:=[]) (l':=[]) rfl (λ_=>rfl) (by simp) (by simp) ?_;(conv=>whnf)
   (repeat' ((refine GC (λ_=>rfl) rfl ?_ ?_;(first|rfl|simp))<;>conv=>whnf))
   exact AY rfl (by simp [A7,GL])
 | cons d l =>
  refine FV.cons (FV.x N.HK rfl rfl ?_);(repeat' (apply AC<;>conv=>whnf))
  refine AU (by simp) ?_;(conv=>whnf)
  skip
  refine WT (enc:=AL) (l:=[]) (l':=d::l) rfl (λ_=>rfl) (by simp at hl ⊢;omega) (by simp at hl ⊢;omega) ?_;(conv=>whnf)
  (repeat' ((refine GC (λ_=>rfl) rfl ?_ ?_;(first|rfl|simp))<;>conv=>whnf))
  exact AY rfl (by simp only[A7,true_and];exact CS (d::l))
theorem KX (N:e9 L) (l:List Nat) (q:Bool) (hD:A1 l) (hl:l.length<=1099511627776):UH L 65 [.sl q (l.map AL)] (.sl q ((dg (val l)).map AL)):=by
 refine zO N.FQ rfl rfl rfl rfl rfl ?_;(repeat' ((first|apply AW|apply AC)<;>conv=>whnf))
 refine DT (λ n=>n) (λ(n:Nat)=>n<=l.length /\ ∀ i,n<=i->i<l.length->l[i]? = some 0) (λ n=>[(3,.int .i64 n)]) (λ_=>[]) l.length ⟨Nat.le_refl _,λ i h1 h2=>by omega⟩ ?_;intro n ⟨p1,p2⟩ ih;rcases n with _|n
 ·(repeat' ((first|(apply AG<;>intro hc<;>try omega)|apply AC)<;>conv=>whnf))
  refine SR (k:=0) (λ_=>rfl) (by omega) ?_;(conv=>whnf)
  refine ⟨_,rfl,?_⟩;rw[GE hD p1 p2 (Or.inl rfl)];rfl
 ·have e1:((n+1:Nat):Int)-1=n:=by omega
  (repeat' ((first|(apply AG<;>intro hc<;>try omega)|(apply CE;omega)|(refine PH (by assumption) ?_ (λ e he hb => ?_);omega)|apply AC)<;>conv=>whnf))
  ·rw[e1]
   exact BR [] (ih n (by omega) ⟨by omega,λ i h1 h2=>by
    by_cases h:i=n
    ·subst h
     rw[e1,Int.toNat_natCast]at he;rw[he];congr 1;omega
    ·exact p2 i (by omega) h2⟩)
  ·refine SR (k:=n+1) (λ_=>rfl) (by omega) ?_
   (conv=>whnf)
   refine ⟨_,rfl,?_⟩;rw[e1,Int.toNat_natCast]at he;rw[GE hD p1 p2 (Or.inr ⟨e,he,by omega⟩)];rfl
theorem U8 (N:e9 L) (l:List Nat) (q:Bool) (hD:A1 l) (hl:l.length<=1099511627776):Ev L 66 [.sl q (l.map AL)] (.sl false ((dg (val l)).map AL)):=by
 have hc:=EX hD;refine Ev.x N.L3 rfl rfl ?_;(repeat' ((first|apply AC|refine KD (KX N l _ hD hl) ?_|refine AE (nN N (dg (val l)) _ (by omega)) ?_)<;>conv=>whnf))
 exact AY rfl (by simp only[A7,true_and];exact CS _)
theorem Vp {a b:Nat} (h:((dg a).length:Int)≠(dg b).length):DC (dg a).length (dg b).length=DC a b:=by
 rcases Nat.lt_trichotomy (dg a).length (dg b).length with h1|h1|h1
 ·have:=T5 h1
  rw[<-H3 (by omega),<-H3 (by omega)]
 ·omega
 ·have:=T5 h1
  rw[<-N5 (by omega),<-N5 (by omega)]
theorem RA (N:e9 L) (a b:List Nat) (q1 q2:Bool) (hA:A1 a) (hB:A1 b) (la:a.length<=1099511627776) (lb:b.length<=1099511627776):Ev L 67 [.sl q1 (a.map AL),.sl q2 (b.map AL)] (.int .i64 (DC (val a) (val b))):=by
 have l1:=EX hA;have l2:=EX hB;have d1:=EA (val a);have d2:=EA (val b);refine Ev.x N.LZ rfl rfl ?_;(repeat' ((first|(apply AG<;>intro hc<;>try omega)|(apply CE;omega)|apply AW|apply AC|refine KD (KX N a _ hA la) ?_|refine KD (KX N b _ hB lb) ?_|refine AE (Xh N _ _) ?_)<;>conv=>whnf))
 ·exact EI (Vp (by omega))
 have hlen:(dg (val a)).length=(dg (val b)).length:=by omega
 have v1:=BW (val a);have v2:=BW (val b);generalize dg (val a)=X at *;generalize dg (val b)=Y at *;refine DT (λ n=>n) (λ(n:Nat)=>n<=X.length/\X.drop n=Y.drop n) (λ n=>[(7,.int .i64 ((n:Int)-1))]) (λ_=>[]) X.length ⟨Nat.le_refl _,by rw[List.drop_of_length_le (Nat.le_refl _),List.drop_of_length_le (by omega)]⟩ ?_;intro n ⟨p1,p2⟩ ih;rcases n with _|n
 ·(repeat' ((first|(apply AG<;>intro hc<;>try omega)|apply AC)<;>conv=>whnf))
  rw[List.drop_zero,List.drop_zero]at p2;exact EI (Q2 (by rw[<-v1,<-v2,p2]))
 ·have e1:((n+1:Nat):Int)-1=n:=by omega
  rw[e1];(repeat' ((first|(apply AG<;>intro hc<;>try omega)|(apply CE;omega)|(refine BD (by assumption) ?_ rfl ?_;omega)|(refine W8 (by assumption) ?_ (λ e he hb => ?_);omega)|apply AC|refine AE (Xi N _ _) ?_)<;>conv=>whnf))
  ·rename_i x hx _
   rcases Nat.lt_trichotomy x e with h|h|h
   ·have:=aG d1 d2 hlen hx he p2 h
    refine EI ?_;rw[<-H3 (by omega),<-H3 (by omega)]
   ·omega
   ·have:=aG d2 d1 hlen.symm he hx p2.symm h
    refine EI ?_;rw[<-N5 (by omega),<-N5 (by omega)]
  ·rename_i x hx _
   refine BL [] (by (conv=>whnf);exact ⟨rfl,rfl,rfl⟩) (ih n (by omega) ⟨by omega,?_⟩);obtain ⟨i1,e1⟩:=zS hx;obtain ⟨i2,e2⟩:=zS he;rw[List.drop_eq_getElem_cons i1,List.drop_eq_getElem_cons i2,p2,e1,e2];congr 1;omega
theorem aI {y:List Nat} {i:Nat} (h:y.length<=i):val (y.take (i+1))=val (y.take i):=by
 rw[DB h,DB (by omega)]
theorem Ada (N:e9 L) (a b:List Nat) (q1 q2:Bool) (hA:A1 a) (hB:A1 b) (la:a.length<=1099511627775) (lb:b.length<=1099511627775):Ev L 68 [.sl q1 (a.map AL),.sl q2 (b.map AL)] (.sl false ((dg (val a+val b)).map AL)):=by
 have l1:=EX hA;have l2:=EX hB;have d1:=EA (val a);have d2:=EA (val b);have v1:=BW (val a);have v2:=BW (val b);refine Ev.x N.LY rfl rfl ?_;(repeat' ((first|(apply AG<;>intro hc<;>try omega)|(apply A0;omega)|apply AW|apply AC|refine KD (KX N a _ hA (by omega)) ?_|refine KD (KX N b _ hB (by omega)) ?_)<;>conv=>whnf))
 ·generalize dg (val a)=y at *
  generalize dg (val b)=x at *;rw[<-v1,<-v2,Nat.add_comm (val y)];have hlen:y.length<=x.length:=by omega
  have zw:x.length<=1099511627775:=by omega
  clear v1 v2 hA hB la lb;refine ER (enc:=AL) 0 (x.length+1) rfl (by omega) (by omega) ?_;(conv=>whnf)
  (repeat' (apply AW<;>conv=>whnf))
  refine F4 (λ i _ _=>x.length-i) (λ(i:Nat) (o:List Nat) (c:Nat)=>i<=x.length/\o.length=x.length+1/\A1 o/\c<=1/\val (o.take i)+4294967296^i*c=val (x.take i)+val (y.take i)) (λ i o c=>[(8,.int .u64 (c:Int)),(29,.int .i64 i)]) (λ i o c=>[(26,26,.rw 1 (o.map AL))]) 0 (List.replicate (x.length+1) 0) 0 ⟨by omega,by simp,I5 _,by omega,by simp [val]⟩ ?_;intro i o c ⟨p1,p2,p3,p4,p5⟩ ih;by_cases hi:i<x.length
  ·(repeat' ((first|(apply AG<;>intro hc<;>try omega)|(apply AU;omega)|(apply F5;omega)|(apply CF;omega)|apply FU|apply AW|(refine W8 (by assumption) ?_ (λ e he hb => ?_);omega)|apply AC)<;>conv=>whnf))
   ·rename_i d hd _
    refine FC (by omega) ?_;(conv=>whnf)
    (repeat' ((first|(apply A0;omega)|apply FH)<;>conv=>whnf))
    refine BL [] (by (conv=>whnf);exact ⟨rfl,rfl,rfl⟩) (ih (i+1) _ _ (by omega) ⟨by omega,by simpa using p2,p3.set _ (by omega),by omega,?_⟩);have h1:=EB hd;have h2:=EB he;have h3:=OR (val (o.take i)) (4294967296^i) (d+c+e);have h4:=F3 (v:=(d+c+e)%4294967296) (show i<o.length by omega);rw[h4,h1,h2,Nat.pow_succ];generalize 4294967296^i=p at *;rw[h3,Nat.mul_add,Nat.mul_add];omega
   ·refine FC (by omega) ?_
    (conv=>whnf)
    (repeat' ((first|(apply A0;omega)|apply FH)<;>conv=>whnf))
    refine BL [] (by (conv=>whnf);exact ⟨rfl,rfl,rfl⟩) (ih (i+1) _ _ (by omega) ⟨by omega,by simpa using p2,p3.set _ (by omega),by omega,?_⟩);have h1:=EB he;have h2:=aI (y:=y) (i:=i) (by omega);have h3:=OR (val (o.take i)) (4294967296^i) (e+c);have h4:=F3 (v:=(e+c)%4294967296) (show i<o.length by omega);rw[h4,h1,h2,Nat.pow_succ];generalize 4294967296^i=p at *;rw[h3,Nat.mul_add];omega
  ·obtain rfl:i=x.length:=by omega
   clear ih;(repeat' ((first|(apply AG<;>intro hc<;>try omega)|(apply AU;omega)|(apply EH;omega)|apply AW|apply AC)<;>conv=>whnf))
   refine FC (by omega) ?_;(conv=>whnf)
   skip
   have hV:val (o.set x.length c)=val x+val y:=by
    have h4:=F3 (v:=c) (show x.length<o.length by omega);rw[zT (by simp;omega)]at h4;rw[h4,p5,DB (Nat.le_refl _),DB hlen]
   have hD:A1 (o.set x.length c):=p3.set _ (by omega);have hL:(o.set x.length c).length=x.length+1:=by simpa using p2
   clear p3 p4 p5 p2;generalize o.set x.length c=O at *;rw[<-hL];refine E2 1000 N.FQ rfl rfl ?_;(repeat' (apply AC<;>conv=>whnf))
   refine D0 (λ n=>n) (λ(n:Nat)=>n<=(O).length /\ ∀ i,n<=i->i<(O).length->(O)[i]? = some 0) (λ n=>[(3,.int .i64 n)]) (λ_=>[]) [] [] (O).length (by first|exact (by (conv=>whnf);exact ⟨rfl,rfl,rfl⟩)|(simp only[List.length_set,List.length_replicate];exact (by (conv=>whnf);exact ⟨rfl,rfl,rfl⟩))) ⟨Nat.le_refl _,λ i h1 h2=>by omega⟩ ?_;intro n ⟨p1,p2⟩ ih;rcases n with _|n
   ·(repeat' ((first|(apply AG<;>intro hc<;>try omega)|apply AC)<;>conv=>whnf))
    refine G9 0 (by omega) (by omega) ?_;(conv=>whnf)
    refine ⟨rfl,_,rfl,?_⟩;(conv=>whnf)
    have hm:=p1;have dk:=GE (l:=O) (by assumption) p1 p2 (Or.inl rfl);clear ih p1 p2;(refine HO (enc:=AL) (λ_=>rfl) (by omega) ?_;(conv=>whnf);exact AY (by rw[<-hV,<-dk];rfl) (by simp only[A7,true_and];exact CS _))
   ·have e1:((n+1:Nat):Int)-1=n:=by omega
    (repeat' ((first|(apply AG<;>intro hc<;>try omega)|(apply AU;omega)|(apply CE;omega)|(refine QQ (by assumption) ?_ (λ v hv hb => ?_);omega)|apply AC)<;>conv=>whnf))
    ·rw[e1]
     exact BR [] (ih n (by omega) ⟨by omega,λ i h1 h2=>by
      by_cases h:i=n
      ·subst h
       rw[e1,Int.toNat_natCast]at hv;rw[hv];congr 1;omega
      ·exact p2 i (by omega) h2⟩)
    ·refine G9 (n+1) (by omega) (by omega) ?_
     (conv=>whnf)
     refine ⟨rfl,_,rfl,?_⟩;(conv=>whnf)
     rw[e1,Int.toNat_natCast]at hv;have hm:=p1;have dk:=GE (l:=O) (by assumption) p1 p2 (Or.inr ⟨_,hv,by omega⟩);clear ih p1 p2 hv;(refine HO (enc:=AL) (λ_=>rfl) (by omega) ?_;(conv=>whnf);exact AY (by rw[<-hV,<-dk];rfl) (by simp only[A7,true_and];exact CS _))
 ·generalize dg (val a)=x at *
  generalize dg (val b)=y at *;rw[<-v1,<-v2];have hlen:y.length<=x.length:=by omega
  have zw:x.length<=1099511627775:=by omega
  clear v1 v2 hA hB la lb;refine ER (enc:=AL) 0 (x.length+1) rfl (by omega) (by omega) ?_;(conv=>whnf)
  (repeat' (apply AW<;>conv=>whnf))
  refine F4 (λ i _ _=>x.length-i) (λ(i:Nat) (o:List Nat) (c:Nat)=>i<=x.length/\o.length=x.length+1/\A1 o/\c<=1/\val (o.take i)+4294967296^i*c=val (x.take i)+val (y.take i)) (λ i o c=>[(8,.int .u64 (c:Int)),(29,.int .i64 i)]) (λ i o c=>[(26,26,.rw 1 (o.map AL))]) 0 (List.replicate (x.length+1) 0) 0 ⟨by omega,by simp,I5 _,by omega,by simp [val]⟩ ?_;intro i o c ⟨p1,p2,p3,p4,p5⟩ ih;by_cases hi:i<x.length
  ·(repeat' ((first|(apply AG<;>intro hc<;>try omega)|(apply AU;omega)|(apply F5;omega)|(apply CF;omega)|apply FU|apply AW|(refine W8 (by assumption) ?_ (λ e he hb => ?_);omega)|apply AC)<;>conv=>whnf))
   ·rename_i d hd _
    refine FC (by omega) ?_;(conv=>whnf)
    (repeat' ((first|(apply A0;omega)|apply FH)<;>conv=>whnf))
    refine BL [] (by (conv=>whnf);exact ⟨rfl,rfl,rfl⟩) (ih (i+1) _ _ (by omega) ⟨by omega,by simpa using p2,p3.set _ (by omega),by omega,?_⟩);have h1:=EB hd;have h2:=EB he;have h3:=OR (val (o.take i)) (4294967296^i) (d+c+e);have h4:=F3 (v:=(d+c+e)%4294967296) (show i<o.length by omega);rw[h4,h1,h2,Nat.pow_succ];generalize 4294967296^i=p at *;rw[h3,Nat.mul_add,Nat.mul_add];omega
   ·refine FC (by omega) ?_
    (conv=>whnf)
    (repeat' ((first|(apply A0;omega)|apply FH)<;>conv=>whnf))
    refine BL [] (by (conv=>whnf);exact ⟨rfl,rfl,rfl⟩) (ih (i+1) _ _ (by omega) ⟨by omega,by simpa using p2,p3.set _ (by omega),by omega,?_⟩);have h1:=EB he;have h2:=aI (y:=y) (i:=i) (by omega);have h3:=OR (val (o.take i)) (4294967296^i) (e+c);have h4:=F3 (v:=(e+c)%4294967296) (show i<o.length by omega);rw[h4,h1,h2,Nat.pow_succ];generalize 4294967296^i=p at *;rw[h3,Nat.mul_add];omega
  ·obtain rfl:i=x.length:=by omega
   clear ih;(repeat' ((first|(apply AG<;>intro hc<;>try omega)|(apply AU;omega)|(apply EH;omega)|apply AW|apply AC)<;>conv=>whnf))
   refine FC (by omega) ?_;(conv=>whnf)
   skip
   have hV:val (o.set x.length c)=val x+val y:=by
    have h4:=F3 (v:=c) (show x.length<o.length by omega);rw[zT (by simp;omega)]at h4;rw[h4,p5,DB (Nat.le_refl _),DB hlen]
   have hD:A1 (o.set x.length c):=p3.set _ (by omega);have hL:(o.set x.length c).length=x.length+1:=by simpa using p2
   clear p3 p4 p5 p2;generalize o.set x.length c=O at *;rw[<-hL];refine E2 1000 N.FQ rfl rfl ?_;(repeat' (apply AC<;>conv=>whnf))
   refine D0 (λ n=>n) (λ(n:Nat)=>n<=(O).length /\ ∀ i,n<=i->i<(O).length->(O)[i]? = some 0) (λ n=>[(3,.int .i64 n)]) (λ_=>[]) [] [] (O).length (by first|exact (by (conv=>whnf);exact ⟨rfl,rfl,rfl⟩)|(simp only[List.length_set,List.length_replicate];exact (by (conv=>whnf);exact ⟨rfl,rfl,rfl⟩))) ⟨Nat.le_refl _,λ i h1 h2=>by omega⟩ ?_;intro n ⟨p1,p2⟩ ih;rcases n with _|n
   ·(repeat' ((first|(apply AG<;>intro hc<;>try omega)|apply AC)<;>conv=>whnf))
    refine G9 0 (by omega) (by omega) ?_;(conv=>whnf)
    refine ⟨rfl,_,rfl,?_⟩;(conv=>whnf)
    have hm:=p1;have dk:=GE (l:=O) (by assumption) p1 p2 (Or.inl rfl);clear ih p1 p2;(refine HO (enc:=AL) (λ_=>rfl) (by omega) ?_;(conv=>whnf);exact AY (by rw[<-hV,<-dk];rfl) (by simp only[A7,true_and];exact CS _))
   ·have e1:((n+1:Nat):Int)-1=n:=by omega
    (repeat' ((first|(apply AG<;>intro hc<;>try omega)|(apply AU;omega)|(apply CE;omega)|(refine QQ (by assumption) ?_ (λ v hv hb => ?_);omega)|apply AC)<;>conv=>whnf))
    ·rw[e1]
     exact BR [] (ih n (by omega) ⟨by omega,λ i h1 h2=>by
      by_cases h:i=n
      ·subst h
       rw[e1,Int.toNat_natCast]at hv;rw[hv];congr 1;omega
      ·exact p2 i (by omega) h2⟩)
    ·refine G9 (n+1) (by omega) (by omega) ?_
     (conv=>whnf)
     refine ⟨rfl,_,rfl,?_⟩;(conv=>whnf)
     rw[e1,Int.toNat_natCast]at hv;have hm:=p1;have dk:=GE (l:=O) (by assumption) p1 p2 (Or.inr ⟨_,hv,by omega⟩);clear ih p1 p2 hv;(refine HO (enc:=AL) (λ_=>rfl) (by omega) ?_;(conv=>whnf);exact AY (by rw[<-hV,<-dk];rfl) (by simp only[A7,true_and];exact CS _))
theorem Rw {a b:Int} (h:DC a b<=0):a<=b:=by
 unfold DC at h;split at h
 ·omega
 ·split at h<;>omega
theorem Vo {a b:Int} (h:0<DC a b):b<a:=by
 unfold DC at h;split at h
 ·omega
 ·split at h<;>omega
theorem oE (N:e9 L) (a b:List Nat) (q1 q2:Bool) (hA:A1 a) (hB:A1 b) (la:a.length<=1099511627776) (lb:b.length<=1099511627776):Ev L 69 [.sl q1 (a.map AL),.sl q2 (b.map AL)] (.sl false ((dg (val a-val b)).map AL)):=by
 have l1:=EX hA;have l2:=EX hB;have d1:=EA (val a);have d2:=EA (val b);have v1:=BW (val a);have v2:=BW (val b);refine Ev.x N.L2 rfl rfl ?_;(repeat' ((first|(apply AG<;>intro hc<;>try omega)|apply AW|apply AC|refine AE (RA N a b _ _ hA hB la lb) ?_|refine KD (KX N a _ hA la) ?_|refine KD (KX N b _ hB lb) ?_)<;>conv=>whnf))
 ·have:=Rw hc
  refine AY ?_ (by simp only[A7,true_and];exact CS _);rw[show val a-val b=0 by omega,E4];rfl
 ·have o7:=Vo hc
  have zh:(dg (val b)).length<=(dg (val a)).length:=by
   rcases Nat.lt_or_ge (dg (val a)).length (dg (val b)).length with h|h
   ·have:=T5 h;omega
   ·exact h
  have xd:val b<val a:=by omega
  clear o7 hc;generalize dg (val a)=x at *;generalize dg (val b)=y at *;rw[<-v1,<-v2]at xd ⊢;clear v1 v2 hA hB lb;refine ER (enc:=AL) 0 x.length rfl rfl (by omega) ?_;(conv=>whnf)
  (repeat' (apply AW<;>conv=>whnf))
  refine F4 (λ i _ _=>x.length-i) (λ(i:Nat) (o:List Nat) (c:Nat)=>i<=x.length/\o.length=x.length/\A1 o/\c<=1/\val (o.take i)+val (y.take i)=val (x.take i)+4294967296^i*c) (λ i o c=>[(8,.int .u64 (c:Int)),(25,.int .i64 i)]) (λ i o c=>[(22,22,.rw 1 (o.map AL))]) 0 (List.replicate x.length 0) 0 ⟨by omega,by simp,I5 _,by omega,by simp [val]⟩ ?_;intro i o c ⟨p1,p2,p3,p4,p5⟩ ih;by_cases hi:i<x.length
  ·(repeat' ((first|(apply AG<;>intro hc<;>try omega)|(apply AU;omega)|(apply W7;omega)|(apply CF;omega)|apply FU|apply AW|(refine W8 (by assumption) ?_ (λ e he hb => ?_);omega)|apply AC)<;>conv=>whnf))
   ·rename_i d hd dw
    obtain ⟨s1,s2⟩:=Ahp dw hb p4;refine FC (by omega) ?_;(conv=>whnf)
    (repeat' ((first|(apply A0;omega)|apply W6)<;>conv=>whnf))
    generalize EP (EP d c) e=t at *;refine BL [] (by (conv=>whnf);exact ⟨rfl,rfl,rfl⟩) (ih (i+1) _ _ (by omega) ⟨by omega,by simpa using p2,p3.set _ (by omega),s2,?_⟩);rw[F3 (by omega),EB hd,EB he,Nat.pow_succ];exact vL p5 s1
   ·obtain ⟨s1,s2⟩:=Aho hb p4
    refine FC (by omega) ?_;(conv=>whnf)
    (repeat' ((first|(apply A0;omega)|apply W6)<;>conv=>whnf))
    generalize EP e c=t at *;refine BL [] (by (conv=>whnf);exact ⟨rfl,rfl,rfl⟩) (ih (i+1) _ _ (by omega) ⟨by omega,by simpa using p2,p3.set _ (by omega),s2,?_⟩);rw[F3 (by omega),EB he,aI (by omega),Nat.pow_succ];rw[<-Nat.add_zero (t%4294967296)]at s1;have:=vL (e:=0) p5 s1
    rw[Nat.mul_zero,Nat.add_zero]at this;exact this
  ·obtain rfl:i=x.length:=by omega
   clear ih;have gi:c=0:=by
    rw[DB (by omega),DB zh,DB (Nat.le_refl _)]at p5;have:=E5 p3
    rw[p2]at this;rcases Nat.eq_zero_or_pos c with h|h
    ·exact h
    ·have:c=1:=by omega
     subst this;omega
   subst gi;have hV:val o=val x-val y:=by
    rw[DB (by omega),DB zh,DB (Nat.le_refl _)]at p5;omega
   clear p5 p4;rw[<-p2];(repeat' ((first|(apply AG<;>intro hc<;>try omega)|apply AC)<;>conv=>whnf))
   refine E2 1000 N.FQ rfl rfl ?_;(repeat' (apply AC<;>conv=>whnf))
   refine D0 (λ n=>n) (λ(n:Nat)=>n<=(o).length /\ ∀ i,n<=i->i<(o).length->(o)[i]? = some 0) (λ n=>[(3,.int .i64 n)]) (λ_=>[]) [] [] (o).length (by first|exact (by (conv=>whnf);exact ⟨rfl,rfl,rfl⟩)|(simp only[List.length_set,List.length_replicate];exact (by (conv=>whnf);exact ⟨rfl,rfl,rfl⟩))) ⟨Nat.le_refl _,λ i h1 h2=>by omega⟩ ?_;intro n ⟨p1,p2⟩ ih;rcases n with _|n
   ·(repeat' ((first|(apply AG<;>intro hc<;>try omega)|apply AC)<;>conv=>whnf))
    refine G9 0 (by omega) (by omega) ?_;(conv=>whnf)
    refine ⟨rfl,_,rfl,?_⟩;(conv=>whnf)
    have hm:=p1;have dk:=GE (l:=o) (by assumption) p1 p2 (Or.inl rfl);clear ih p1 p2;(refine HO (enc:=AL) (λ_=>rfl) (by omega) ?_;(conv=>whnf);exact AY (by rw[<-hV,<-dk];rfl) (by simp only[A7,true_and];exact CS _))
   ·have e1:((n+1:Nat):Int)-1=n:=by omega
    (repeat' ((first|(apply AG<;>intro hc<;>try omega)|(apply AU;omega)|(apply CE;omega)|(refine QQ (by assumption) ?_ (λ v hv hb => ?_);omega)|apply AC)<;>conv=>whnf))
    ·rw[e1]
     exact BR [] (ih n (by omega) ⟨by omega,λ i h1 h2=>by
      by_cases h:i=n
      ·subst h
       rw[e1,Int.toNat_natCast]at hv;rw[hv];congr 1;omega
      ·exact p2 i (by omega) h2⟩)
    ·refine G9 (n+1) (by omega) (by omega) ?_
     (conv=>whnf)
     refine ⟨rfl,_,rfl,?_⟩;(conv=>whnf)
     rw[e1,Int.toNat_natCast]at hv;have hm:=p1;have dk:=GE (l:=o) (by assumption) p1 p2 (Or.inr ⟨_,hv,by omega⟩);clear ih p1 p2 hv;(refine HO (enc:=AL) (λ_=>rfl) (by omega) ?_;(conv=>whnf);exact AY (by rw[<-hV,<-dk];rfl) (by simp only[A7,true_and];exact CS _))
theorem dA (N:e9 L) (a b:List Nat) (q1 q2:Bool) (hA:A1 a) (hB:A1 b) (Qn:a.length+b.length<=1099511627776):Ev L 70 [.sl q1 (a.map AL),.sl q2 (b.map AL)] (.sl false ((dg (val a*val b)).map AL)):=by
 have l1:=EX hA;have l2:=EX hB;have d1:=EA (val a);have d2:=EA (val b);have v1:=BW (val a);have v2:=BW (val b);refine Ev.x N.L1 rfl rfl ?_;have hz : ∀ p:Prop,((dg (val a)).length:Int)=0\/((dg (val b)).length:Int)=0->AJ (.sl false []) (.sl false ((dg (val a*val b)).map AL)):=λ_ h=>by
  have:val a*val b=0:=by
   rcases h with h|h
   ·have:dg (val a)=[]:=List.eq_nil_of_length_eq_zero (by omega)
    rw[cE.1 this,Nat.zero_mul]
   ·have:dg (val b)=[]:=List.eq_nil_of_length_eq_zero (by omega)
    rw[cE.1 this,Nat.mul_zero]
  exact AY (by rw[this,E4];rfl) (by simp only[A7,true_and];exact CS _)
 (repeat' ((first|(apply AG<;>intro hc<;>try omega)|(apply A0;omega)|apply AW|apply AC|refine KD (KX N a _ hA (by omega)) ?_|refine KD (KX N b _ hB (by omega)) ?_)<;>conv=>whnf))
 ·exact hz True (Or.inl hc)
 ·exact hz True (Or.inr hc)
 ·clear hz
  generalize dg (val a)=x at *;generalize dg (val b)=y at *;rw[<-v1,<-v2];have oi:x.length+y.length<=1099511627776:=by omega
  clear v1 v2 hA hB Qn l1 l2;refine ER (enc:=AL) 0 (x.length+y.length) rfl (by omega) (by omega) ?_;(conv=>whnf)
  (repeat' (apply AW<;>conv=>whnf))
  refine GW (λ i _=>x.length-i) (λ(i:Nat) (o:List Nat)=>i<=x.length/\o.length=x.length+y.length/\A1 o/\val o=val (x.take i)*val y /\ ∀ k,i+y.length<=k->k<o.length->o[k]? = some 0) (λ i o=>[(34,.int .i64 i)]) (λ i o=>[(31,31,.rw 1 (o.map AL))]) 0 (List.replicate (x.length+y.length) 0) ⟨by omega,by simp,I5 _,by simp [val,aK],λ k h1 h2=>by simp at h2;simp [h2]⟩ ?_;intro i O ⟨p1,p2,p3,p4,p5⟩ ih;by_cases hi:i<x.length
  ·obtain ⟨d,hd⟩ : ∃ d,x[i]? = some d:=⟨_,zE hi⟩
   have dw:=d1.at hd;(repeat' ((first|(apply AG<;>intro hc<;>try omega)|(apply A0;omega)|apply AW|(refine BD (by assumption) ?_ rfl ?_;omega)|apply AC)<;>conv=>whnf))
   ·refine BL [] (by (conv=>whnf);exact ⟨rfl,rfl,rfl⟩) (ih (i+1) O (by omega) ⟨by omega,p2,p3,?_,λ k h1 h2=>p5 k (by omega) h2⟩)
    rw[EB hd,p4,show d=0 by omega,Nat.mul_zero,Nat.add_zero]
   ·refine F4 (λ j _ _=>y.length-j) (λ(j:Nat) (o:List Nat) (c:Nat)=>j<=y.length/\o.length=x.length+y.length/\A1 o/\c<4294967296/\val o+4294967296^(i+j)*c=val O+4294967296^i*(d*val (y.take j)) /\ ∀ k,i+j<=k->o[k]? = O[k]?) (λ j o c=>[(10,.int .u64 (c:Int)),(43,.int .i64 j)]) (λ j o c=>[(31,31,.rw 1 (o.map AL))]) 0 O 0 ⟨by omega,p2,p3,by omega,by simp [val],λ_ _=>rfl⟩ ?_
    intro j o c ⟨r1,r2,r3,r4,r5,r6⟩ jh;have e1:((i:Int)+j).toNat=i+j:=by omega
    by_cases hj:j<y.length
    ·obtain ⟨w,hw⟩ : ∃ w,y[j]? = some w:=⟨_,zE hj⟩
     have xp:=d2.at hw;have hm:=TK dw xp;(repeat' ((first|(apply AG<;>intro hc<;>try omega)|(apply AU;omega)|(apply A0;omega)|(apply F5;omega)|(apply OK;omega)|(apply CF;omega)|apply FU|(refine BD (by assumption) ?_ rfl ?_;omega)|(refine jR (by assumption) ?_ (λ v hv hb => ?_);omega)|apply AC)<;>conv=>whnf))
     refine XC (i+j) (by omega) (by omega) ?_;(conv=>whnf)
     (repeat' ((first|(apply A0;omega)|apply FH)<;>conv=>whnf))
     refine BL [] (by (conv=>whnf);exact ⟨rfl,rfl,rfl⟩) (jh (j+1) _ _ (by omega) ⟨by omega,by simpa using r2,r3.set _ (by omega),by omega,?_,?_⟩)
     ·have h1:=aH (v:=(d*w+v+c)%4294967296) hv
      have h2:=OR 0 (4294967296^(i+j)) (d*w+v+c);rw[EB hw,show i+(j+1)=i+j+1 by omega,Nat.pow_succ (4294967296) (i+j)];have h3:4294967296^i*(d*(val (y.take j)+4294967296^j*w))=4294967296^i*(d*val (y.take j))+4294967296^(i+j)*(d*w):=by rw[Nat.pow_add];grind
      rw[h3];generalize 4294967296^(i+j)=P at *;rw[Nat.mul_add P,Nat.mul_add P]at h2;omega
     ·intro k hk
      rw[List.getElem?_set_ne (by omega)];exact r6 k (by omega)
    ·obtain rfl:j=y.length:=by omega
     clear jh;(repeat' ((first|(apply AG<;>intro hc<;>try omega)|(apply AU;omega)|(apply A0;omega)|(apply EH;omega)|apply AW|apply AC)<;>conv=>whnf))
     have hz:=r6 (i+y.length) (by omega);rw[p5 (i+y.length) (by omega) (by omega)]at hz;refine XC (i+y.length) (by omega) (by omega) ?_;(conv=>whnf)
     (repeat' ((first|(apply A0;omega)|fail)<;>conv=>whnf))
     refine BL [] (by (conv=>whnf);exact ⟨rfl,rfl,rfl⟩) (ih (i+1) _ (by omega) ⟨by omega,by simpa using r2,r3.set _ (by omega),?_,?_⟩)
     ·have h1:=aH (v:=c) hz
      rw[Nat.mul_zero,Nat.add_zero]at h1;rw[h1,r5,p4,DB (Nat.le_refl _),EB hd,Nat.add_mul,Nat.mul_assoc]
     ·intro k h1 h2
      rw[List.length_set]at h2;rw[List.getElem?_set_ne (by omega),r6 k (by omega)];exact p5 k (by omega) (by omega)
  ·obtain rfl:i=x.length:=by omega
   clear ih;rw[DB (Nat.le_refl _)]at p4;rw[<-p4,<-p2];(repeat' ((first|(apply AG<;>intro hc<;>try omega)|apply AC)<;>conv=>whnf))
   clear p5;refine E2 1000 N.FQ rfl rfl ?_;(repeat' (apply AC<;>conv=>whnf))
   refine D0 (λ n=>n) (λ(n:Nat)=>n<=(O).length /\ ∀ i,n<=i->i<(O).length->(O)[i]? = some 0) (λ n=>[(3,.int .i64 n)]) (λ_=>[]) [] [] (O).length (by first|exact (by (conv=>whnf);exact ⟨rfl,rfl,rfl⟩)|(simp only[List.length_set,List.length_replicate];exact (by (conv=>whnf);exact ⟨rfl,rfl,rfl⟩))) ⟨Nat.le_refl _,λ i h1 h2=>by omega⟩ ?_;intro n ⟨p1,p2⟩ ih;rcases n with _|n
   ·(repeat' ((first|(apply AG<;>intro hc<;>try omega)|apply AC)<;>conv=>whnf))
    refine G9 0 (by omega) (by omega) ?_;(conv=>whnf)
    refine ⟨rfl,_,rfl,?_⟩;(conv=>whnf)
    have hm:=p1;have dk:=GE (l:=O) (by assumption) p1 p2 (Or.inl rfl);clear ih p1 p2;(refine HO (enc:=AL) (λ_=>rfl) (by omega) ?_;(conv=>whnf);exact AY (by rw[<-dk];rfl) (by simp only[A7,true_and];exact CS _))
   ·have e1:((n+1:Nat):Int)-1=n:=by omega
    (repeat' ((first|(apply AG<;>intro hc<;>try omega)|(apply AU;omega)|(apply CE;omega)|(refine QQ (by assumption) ?_ (λ v hv hb => ?_);omega)|apply AC)<;>conv=>whnf))
    ·rw[e1]
     exact BR [] (ih n (by omega) ⟨by omega,λ i h1 h2=>by
      by_cases h:i=n
      ·subst h
       rw[e1,Int.toNat_natCast]at hv;rw[hv];congr 1;omega
      ·exact p2 i (by omega) h2⟩)
    ·refine G9 (n+1) (by omega) (by omega) ?_
     (conv=>whnf)
     refine ⟨rfl,_,rfl,?_⟩;(conv=>whnf)
     rw[e1,Int.toNat_natCast]at hv;have hm:=p1;have dk:=GE (l:=O) (by assumption) p1 p2 (Or.inr ⟨_,hv,by omega⟩);clear ih p1 p2 hv;(refine HO (enc:=AL) (λ_=>rfl) (by omega) ?_;(conv=>whnf);exact AY (by rw[<-dk];rfl) (by simp only[A7,true_and];exact CS _))
end Go.g6

namespace Go.g6
open F
section
variable {K:AV->Prop} {a b s:Nat} {k':IntKind}
theorem jV (hs:s<=32) (hk:K (.int .u32 ((O8 a s:Nat):Int))):AD .shl .u32 (a:Int) k' (s:Int) K:=by
 refine aV (show s<=IntKind.u32.bits from hs) ?_;rw[wrap_u32,<-gW];exact hk
theorem ON (hs:s<=64) (h:a*2^s<=18446744073709551615) (hk:K (.int .u64 ((a*2^s:Nat):Int))):AD .shl .u64 (a:Int) k' (s:Int) K:=by
 refine aV (show s<=IntKind.u64.bits from hs) ?_;rw[IntWalk.u64_in _ (by omega)];exact hk
theorem aW (n:Nat) (hx:a%2^n=0) (hy:b<2^n) (h:a+b<=4294967295) (hk:K (.int .u32 ((a+b:Nat):Int))):AD .or .u32 (a:Int) .u32 (b:Int) K :=
 aU n hx hy (show a+b<4294967296 by omega) (IntWalk.u32_in _ (by omega)) hk
theorem zB (n:Nat) (hx:b%2^n=0) (hy:a<2^n) (h:a+b<=4294967295) (hk:K (.int .u32 ((a+b:Nat):Int))):AD .or .u32 (a:Int) .u32 (b:Int) K:=by
 have e:DN .or .u32 (a:Int) .u32 (b:Int)=DN .or .u32 (b:Int) .u32 (a:Int):=by
  simp only[DN,if_true,BitVec.or_comm]
 rw[Nat.add_comm]at hk h;obtain ⟨v,h1,h2⟩:=aW (K:=K) n hx hy h hk;exact ⟨v,by rw[e];exact h1,h2⟩
theorem zF (hs:s<=32) (hk:K (.int .u32 ((a/2^s:Nat):Int))):AD .shr .u32 (a:Int) k' (s:Int) K:=OM (show s<=IntKind.u32.bits from hs) hk
end
attribute [local irreducible] AA AF AM AD CZ AX A9 BG B8 B6 CT D8 B9 BF B1 CR AB A6 AJ pw BN BH CQ CK C6 C7 CW BV D4
set_option maxHeartbeats 1000000
variable {L:Lib}
def aT (a:List Nat) (s:Nat) (o:List Nat):Prop:=A1 o/\(a.length<=o.length/\o.length<=a.length+1)/\(val a*2^s<4294967296^o.length->val o=val a*2^s)
theorem AeL {a o:List Nat} {s lo:Nat} (hD:A1 o) (hl:o.length=a.length) (h:val (o.take a.length)+4294967296^a.length*lo=val (a.take a.length)*2^s):aT a s o:=by
 refine ⟨hD,by omega,λ o7 => ?_⟩;rw[DB (by omega),DB (Nat.le_refl _)]at h;rw[hl]at o7;have:lo=0:=by
  rcases Nat.eq_zero_or_pos lo with h0|h0
  ·exact h0
  ·have:4294967296^a.length*1<=4294967296^a.length*lo:=Nat.mul_le_mul_left _ h0
   omega
 subst this;omega
theorem qZ {a o:List Nat} {s lo:Nat} (hD:A1 o) (pg:lo<4294967296) (hl:o.length=a.length+1) (h:val (o.take a.length)+4294967296^a.length*lo=val (a.take a.length)*2^s):aT a s (o.set a.length lo):=by
 refine ⟨hD.set _ pg,by simp;omega,λ_ => ?_⟩;have h1:=F3 (v:=lo) (show a.length<o.length by omega);rw[DB (by simp;omega),h,DB (Nat.le_refl _)]at h1;exact h1
theorem Ade (N:e9 L) (a:List Nat) (q:Bool) (s n:Nat) (hA:A1 a) (hs:s<=31) (hn:a.length<=n/\n<=a.length+1) (la:a.length<=1099511627776) : ∃ r,Ev L 71 [.sl q (a.map AL),.int .u64 (s:Int),.int .i64 (n:Int)] r /\ ∃ o,aT a s o/\o.length=n/\r = .sl false (o.map AL):=by
 refine Ev.xE N.JU rfl rfl ?_;(repeat' (apply AC<;>conv=>whnf))
 refine ER (enc:=AL) 0 n rfl rfl (by omega) ?_;(conv=>whnf)
 (repeat' (apply AW<;>conv=>whnf))
 refine F4 (λ i _ _=>a.length-i) (λ(i:Nat) (o:List Nat) (lo:Nat)=>i<=a.length/\o.length=n/\A1 o/\lo<2^s/\val (o.take i)+4294967296^i*lo=val (a.take i)*2^s) (λ i o lo=>[(8,.int .u32 (lo:Int)),(15,.int .i64 i)]) (λ i o lo=>[(71012,71012,.rw 1 (o.map AL))]) 0 (List.replicate n 0) 0 ⟨by omega,by simp,I5 _,Nat.two_pow_pos s,by simp [val]⟩ ?_;intro i o lo ⟨p1,p2,p3,p4,p5⟩ ih;have ve:=V0 (s:=s) (by omega);by_cases hi:i<a.length
 ·obtain ⟨d,hd⟩ : ∃ d,a[i]? = some d:=⟨_,zE hi⟩
  have dw:=hA.at hd;obtain ⟨f1,f2,f3,f4⟩:=R6 (s:=s) dw (by omega);(repeat' ((first|(apply AG<;>intro hc<;>try omega)|(refine BD (by assumption) ?_ rfl ?_;omega)|apply AC)<;>conv=>whnf))
  refine jV (by omega) ?_;(conv=>whnf)
  skip
  refine aW s f1 p4 (by omega) ?_;(conv=>whnf)
  (repeat' ((first|(apply AU;omega)|fail)<;>conv=>whnf))
  refine FC (by omega) ?_;(conv=>whnf)
  (repeat' ((first|(apply CF;omega)|fail)<;>conv=>whnf))
  refine ON (by omega) f4 ?_;(conv=>whnf)
  (repeat' ((first|(apply A0;omega)|apply FH|(apply EH;omega))<;>conv=>whnf))
  rw[<-R5];refine BL [] (by (conv=>whnf);exact ⟨rfl,rfl,rfl⟩) (ih (i+1) _ _ (by omega) ⟨by omega,by simpa using p2,p3.set _ (by omega),f2,?_⟩);rw[F3 (by omega),EB hd,Nat.pow_succ];exact rB p5
 ·obtain rfl:i=a.length:=by omega
  clear ih;(repeat' ((first|(apply AG<;>intro hc<;>try omega)|(apply AU;omega)|apply AW|apply AC)<;>conv=>whnf))
  ·refine FC (by omega) ?_
   (conv=>whnf)
   skip
   refine ⟨_,?_,_,qZ p3 (by omega) (by omega) p5,by simpa using p2,rfl⟩;(conv=>whnf)
   refine GC (enc:=AL) (λ_=>rfl) rfl (by simp [p2]) ?_;(conv=>whnf)
   exact AY rfl (by simp only[A7,true_and];exact CS _)
  ·refine ⟨_,?_,_,AeL p3 (by omega) p5,p2,rfl⟩
   (conv=>whnf)
   refine GC (enc:=AL) (λ_=>rfl) rfl (by simp [p2]) ?_;(conv=>whnf)
   exact AY rfl (by simp only[A7,true_and];exact CS _)
theorem Adf (N:e9 L) (a:List Nat) (q:Bool) (s:Nat) (hA:A1 a) (hs:s<=31) (la:a.length<=1099511627776) : ∃ r,Ev L 72 [.sl q (a.map AL),.int .u64 (s:Int)] r /\ ∃ o,A1 o/\o.length=a.length/\val o=val a/2^s/\r = .sl false (o.map AL):=by
 refine Ev.xE N.L8 rfl rfl ?_;(repeat' ((first|apply AW|apply AC)<;>conv=>whnf))
 refine ER (enc:=AL) 0 a.length rfl rfl (by omega) ?_;(conv=>whnf)
 (repeat' ((first|(apply CE;omega)|apply AW)<;>conv=>whnf))
 refine F4 (λ n _ _=>n) (λ(n:Nat) (o:List Nat) (hi:Nat)=>n<=a.length/\o.length=a.length/\A1 o/\hi=val (a.drop n)%2^s*2^(32-s)/\val (o.drop n)=val (a.drop n)/2^s) (λ n o hi=>[(6,.int .u32 (hi:Int)),(7,.int .i64 ((n:Int)-1))]) (λ n o hi=>[(10,10,.rw 1 (o.map AL))]) a.length (List.replicate a.length 0) 0 ⟨by omega,by simp,I5 _,by rw[List.drop_of_length_le (Nat.le_refl _)];simp [val],by rw[List.drop_of_length_le (Nat.le_refl _),List.drop_of_length_le (by simp)];simp [val]⟩ ?_;intro n o hi ⟨p1,p2,p3,p4,p5⟩ ih;rcases n with _|n
 ·(repeat' ((first|(apply AG<;>intro hc<;>try omega)|apply AC)<;>conv=>whnf))
  rw[List.drop_zero,List.drop_zero]at p5;refine ⟨_,?_,_,p3,p2,p5,rfl⟩;(conv=>whnf)
  refine GC (enc:=AL) (λ_=>rfl) rfl p2.symm ?_;(conv=>whnf)
  exact AY rfl (by simp only[A7,true_and];exact CS _)
 ·have e1:((n+1:Nat):Int)-1=n:=by omega
  rw[e1];obtain ⟨d,hd⟩ : ∃ d,a[n]? = some d:=⟨_,zE (by omega)⟩;have dw:=hA.at hd;obtain ⟨f1,f2,f3⟩:=rF (V:=val (a.drop (n+1))) dw (show s<=32 by omega);obtain ⟨g1,g2,g3,g4⟩:=R6 dw (show 32-s<=32 by omega);rw[<-p4]at f2 f3;(repeat' ((first|(apply AG<;>intro hc<;>try omega)|(refine BD (by assumption) ?_ rfl ?_;omega)|apply AC)<;>conv=>whnf))
  refine zF (by omega) ?_;(conv=>whnf)
  skip
  refine zB (32-s) f2 f1 (by omega) ?_;(conv=>whnf)
  (repeat' ((first|(apply AU;omega)|fail)<;>conv=>whnf))
  refine FC (by omega) ?_;(conv=>whnf)
  (repeat' ((first|(apply W7;omega)|(apply CF;omega)|(refine BD (by assumption) ?_ rfl ?_;omega))<;>conv=>whnf))
  rw[show EP 32 s=32-s by rw[SF];omega];refine ON (by omega) g4 ?_;(conv=>whnf)
  (repeat' ((first|(apply CE;omega)|apply FU)<;>conv=>whnf))
  rw[AeS (by omega)];refine BL [] (by (conv=>whnf);exact ⟨rfl,rfl,rfl⟩) (ih n _ _ (by omega) ⟨by omega,by simpa using p2,p3.set _ (by omega),?_,?_⟩)
  ·rw[G8 hd,rG (by omega)]
  ·rw[G8 (l:=o.set n (d/2^s+hi)) (d:=d/2^s+hi) (by rw[List.getElem?_set_self (by omega)]),List.drop_set_of_lt (by omega),p5,G8 hd,eT (by omega),<-p4]
theorem YU : ∀ n<256,(List.replicate 1 0++List.replicate 1 1++List.replicate 2 2++List.replicate 4 3++List.replicate 8 4++List.replicate 16 5++List.replicate 32 6++List.replicate 64 7++List.replicate 128 8)[n]? = some (u7 n):=by decide +kernel
theorem Xo (N:e9 L) (x:Nat) (hx:x<4294967296):Ev L 63 [.int .u32 (x:Int)] (.int .i64 (u7 x:Int)):=by
 have gy : ∀ y<256,u7 y<=8:=λ y h=>XH (k:=8) h
 refine Ev.x N.LW rfl rfl ?_;(repeat' ((first|(apply AG<;>intro hc<;>try omega)|(apply A0;omega)|apply yY|apply zA|(apply yD;omega)|apply AC)<;>conv=>whnf))
 ·have Kt:=gy (x/65536/256) (by omega)
  refine XD (YU _ (by omega)) ?_;(conv=>whnf)
  (repeat' ((first|(apply A0;omega)|(apply QJ;omega))<;>conv=>whnf))
  have h1:u7 (x/65536)+16=u7 x:=UQ 16 (x:=x) (by omega);have h2:u7 (x/65536/256)+8=u7 (x/65536):=UQ 8 (x:=x/65536) (by omega);refine EI ?_;rw[<-h1,<-h2];omega
 ·have Kt:=gy (x/65536) (by omega)
  refine XD (YU _ (by omega)) ?_;(conv=>whnf)
  (repeat' ((first|(apply A0;omega)|(apply QJ;omega))<;>conv=>whnf))
  have h1:u7 (x/65536)+16=u7 x:=UQ 16 (x:=x) (by omega);refine EI ?_;rw[<-h1];omega
 ·have Kt:=gy (x/256) (by omega)
  refine XD (YU _ (by omega)) ?_;(conv=>whnf)
  (repeat' ((first|(apply A0;omega)|(apply QJ;omega))<;>conv=>whnf))
  have h2:u7 (x/256)+8=u7 x:=UQ 8 (x:=x) (by omega);refine EI ?_;rw[<-h2];omega
 ·have Kt:=gy (x) (by omega)
  refine XD (YU _ (by omega)) ?_;(conv=>whnf)
  (repeat' ((first|(apply A0;omega)|(apply QJ;omega))<;>conv=>whnf))
  refine EI ?_;omega
theorem nQ (N:e9 L) (x:Nat) (hx:x<4294967296):Ev L 64 [.int .u32 (x:Int)] (.int .i64 ((32-u7 x:Nat):Int)):=by
 have h:=XH (k:=32) hx;refine Ev.x N.LV rfl rfl ?_;(repeat' ((first|(apply CE;omega)|apply AC|refine AE (Xo N x hx) ?_)<;>conv=>whnf))
 refine EI ?_;omega
end Go.g6

namespace Go.g6
open F
attribute [local irreducible] AA AF AM AD CZ AX A9 BG B8 B6 CT D8 B9 BF B1 CR AB A6 AJ pw BN BH CQ CK C6 C7 CW BV D4
variable {L:Lib}
set_option maxHeartbeats 4000000
theorem JK (l:List Nat):A7 (.sl false (l.map AL)):=by
 simp only[A7,true_and];exact CS l
theorem kK {M:Mem} {v:AV} {ky t z off len s:Nat} {l:List Nat} (hv:v = .row ky t z off len) (h:c8 M ky=some (s,.rw 1 (l.map AL))):QY M v=none:=by
 subst hv;unfold QY;split
 ·rename_i e
  simp only[AV.row.injEq]at e;obtain ⟨rfl,_⟩:=e;rw[h];cases l with
  | nil=>rfl
  | cons a l=>cases l<;>rfl
 ·rfl
theorem GG (N:b8 L) (l:List Nat) (q:Bool) (hD:A1 l) (hl:l.length<=1099511627776):Ev L 101 [.sl q (l.map AL)] (.sl false ((dg (val l)).map AL)):=by
 refine Ev.x N.HH rfl rfl ?_;(repeat' ((first|apply AW|apply AC)<;>conv=>whnf))
 refine DT (λ n=>n) (λ(n:Nat)=>n<=l.length /\ ∀ i,n<=i->i<l.length->l[i]? = some 0) (λ n=>[(3,.int .i64 n)]) (λ_=>[]) l.length ⟨Nat.le_refl _,λ i h1 h2=>by omega⟩ ?_;intro n ⟨p1,p2⟩ ih;rcases n with _|n
 ·have hv:=GE hD p1 p2 (Or.inl rfl)
  rw[<-hv];clear ih;(repeat' ((first|(apply AG<;>intro hc<;>try omega)|apply AC)<;>conv=>whnf))
  refine SR (k:=0) (λ_=>rfl) (by omega) ?_;(conv=>whnf)
  refine PE (enc:=AL) (λ_=>rfl) (by rw[List.length_take];omega) (by rw[List.length_take];omega) ?_;(conv=>whnf)
  (repeat' ((refine GC (λ_=>rfl) rfl ?_ ?_;(first|rfl|simp))<;>conv=>whnf))
  exact AY rfl (JK _)
 ·have e1:((n+1:Nat):Int)-1=n:=by omega
  (repeat' ((first|(apply AG<;>intro hc<;>try omega)|(apply CE;omega)|(refine PH (by assumption) ?_ (λ e he hb => ?_);omega)|apply AC)<;>conv=>whnf))
  ·rw[e1]
   exact BR [] (ih n (by omega) ⟨by omega,λ i h1 h2=>by
    by_cases h:i=n
    ·subst h
     rw[e1,Int.toNat_natCast]at he;rw[he];congr 1;omega
    ·exact p2 i (by omega) h2⟩)
  ·rw[e1,Int.toNat_natCast]at he
   have hv:=GE hD p1 p2 (Or.inr ⟨e,he,by omega⟩);rw[<-hv];clear ih;refine SR (k:=n+1) (λ_=>rfl) (by omega) ?_;(conv=>whnf)
   refine PE (enc:=AL) (λ_=>rfl) (by rw[List.length_take];omega) (by rw[List.length_take];omega) ?_;(conv=>whnf)
   (repeat' ((refine GC (λ_=>rfl) rfl ?_ ?_;(first|rfl|simp))<;>conv=>whnf))
   exact AY rfl (JK _)
theorem dC (N:b8 L) (a b:List Nat) (q1 q2:Bool) (hA:A1 a) (hB:A1 b) (la:a.length<=1099511627776) (lb:b.length<=1099511627776):Ev L 102 [.sl q1 (a.map AL),.sl q2 (b.map AL)] (.int .i64 (DC (val a) (val b))):=by
 have t1:=λ q=>GG N a q hA la
 have t2:=λ q=>GG N b q hB lb
 have l1:=EX hA;have l2:=EX hB;have d1:=EA (val a);have d2:=EA (val b);refine Ev.x N.MS rfl rfl ?_;by_cases hlen:(dg (val a)).length=(dg (val b)).length
 ·have v1:=BW (val a)
  have v2:=BW (val b);generalize dg (val a)=X at *;generalize dg (val b)=Y at *;(repeat' ((first|(apply AG<;>intro hc<;>try omega)|(apply CE;omega)|apply AW|apply AC|refine AE (t1 _) ?_|refine AE (t2 _) ?_)<;>conv=>whnf))
  refine DT (λ n=>n) (λ(n:Nat)=>n<=X.length/\X.drop n=Y.drop n) (λ n=>[(5,.int .i64 ((n:Int)-1))]) (λ_=>[]) X.length ⟨Nat.le_refl _,by rw[List.drop_of_length_le (Nat.le_refl _),List.drop_of_length_le (by omega)]⟩ ?_;intro n ⟨p1,p2⟩ ih;rcases n with _|n
  ·(repeat' ((first|(apply AG<;>intro hc<;>try omega)|apply AC)<;>conv=>whnf))
   rw[List.drop_zero,List.drop_zero]at p2;exact EI (Q2 (by rw[<-v1,<-v2,p2]))
  ·have e1:((n+1:Nat):Int)-1=n:=by omega
   rw[e1];obtain ⟨x,hx⟩ : ∃ x,X[n]? = some x:=⟨_,zE (by omega)⟩;obtain ⟨y,hy⟩ : ∃ y,Y[n]? = some y:=⟨_,zE (by omega)⟩;rcases Nat.lt_trichotomy x y with h|h|h
   ·have:=aG d1 d2 hlen hx hy p2 h
    (repeat' ((first|(apply AG<;>intro hc<;>try omega)|(refine BD (by assumption) ?_ rfl ?_;omega)|apply AC)<;>conv=>whnf))
    exact EI (H3 (by omega))
   ·subst h
    (repeat' ((first|(apply AG<;>intro hc<;>try omega)|(apply CE;omega)|(refine BD (by assumption) ?_ rfl ?_;omega)|apply AC)<;>conv=>whnf))
    refine BL [] (by (conv=>whnf);exact ⟨rfl,rfl,rfl⟩) (ih n (by omega) ⟨by omega,?_⟩);obtain ⟨i1,e1⟩:=zS hx;obtain ⟨i2,e2⟩:=zS hy;rw[List.drop_eq_getElem_cons i1,List.drop_eq_getElem_cons i2,p2,e1,e2]
   ·have:=aG d2 d1 hlen.symm hy hx p2.symm h
    (repeat' ((first|(apply AG<;>intro hc<;>try omega)|(refine BD (by assumption) ?_ rfl ?_;omega)|apply AC)<;>conv=>whnf))
    exact EI (N5 (by omega))
 ·rcases Nat.lt_trichotomy (dg (val a)).length (dg (val b)).length with h1|h1|h1
  ·have:=T5 h1
   (repeat' ((first|(apply AG<;>intro hc<;>try omega)|apply AW|apply AC|refine AE (t1 _) ?_|refine AE (t2 _) ?_)<;>conv=>whnf))
   exact EI (H3 (by omega))
  ·exact absurd h1 hlen
  ·have:=T5 h1
   (repeat' ((first|(apply AG<;>intro hc<;>try omega)|apply AW|apply AC|refine AE (t1 _) ?_|refine AE (t2 _) ?_)<;>conv=>whnf))
   exact EI (N5 (by omega))
theorem iT {y:List Nat} (i:Nat):val (y.take (i+1))=val (y.take i)+4294967296^i*y.getD i 0:=by
 rcases Nat.lt_or_ge i y.length with h|h
 ·rw[EB (zE h),GP (zE h)]
 ·rw[<-getD_none h,DB h,DB (by omega)];omega
theorem oI (N:b8 L) (a b:List Nat) (q1 q2:Bool) (hA:A1 a) (hB:A1 b) (la:a.length<=549755813888) (lb:b.length<=549755813888):Ev L 103 [.sl q1 (a.map AL),.sl q2 (b.map AL)] (.sl false ((dg (val a+val b)).map AL)):=by
 refine Ev.x N.MQ rfl rfl ?_;(repeat' (apply AC<;>conv=>whnf))
 refine F4 (λ i _ _=>a.length+b.length-i) (λ(i:Nat) (o:List Nat) (c:Nat)=>(i<=a.length\/i<=b.length)/\o.length=i/\A1 o/\c<=1/\val o+4294967296^i*c=val (a.take i)+val (b.take i)) (λ i o c=>[(7,.int .i64 i),(6,.int .u64 (c:Int)),(5,.row 5 0 1 0 o.length)]) (λ i o c=>[(5,5,.rw 1 (o.map AL))]) 0 [] 0 ⟨by omega,rfl,S0,by omega,by simp [val]⟩ ?_;intro i o c ⟨p1,p2,p3,p4,p5⟩ ih;by_cases hi:i<a.length\/i<b.length
 ·have g1:=iT (y:=a) i
  have g2:=iT (y:=b) i;have k1:=PX hA i;have k2:=PX hB i;have m4 : ∀ t,t=c+a.getD i 0+b.getD i 0->val (o++[t%4294967296])+4294967296^(i+1)*(t/4294967296)=val (a.take (i+1))+val (b.take (i+1)):=λ t ht=>by
   have h3:=OR (val o) (4294967296^i) t;rw[NV,p2,g1,g2,Nat.pow_succ];rw[h3,ht,Nat.mul_add,Nat.mul_add];omega
  by_cases h1:i<a.length
  ·obtain ⟨x,hx⟩ : ∃ x,a[i]? = some x:=⟨_,zE h1⟩
   have Eg:=hA.at hx;rw[GP hx]at m4;by_cases h2:i<b.length
   ·obtain ⟨y,hy⟩ : ∃ y,b[i]? = some y:=⟨_,zE h2⟩
    have ue:=hB.at hy;rw[GP hy]at m4;(repeat' ((first|(apply AG<;>intro hc<;>try omega)|(apply F5;omega)|(apply CF;omega)|apply FU|apply AW|(refine BD (by assumption) ?_ rfl ?_;omega)|apply FI|apply AC)<;>conv=>whnf))
    refine FS (enc:=AL) (((c+x+y)%4294967296:Nat)) rfl rfl rfl (by omega) (by omega) ?_;(conv=>whnf)
    (repeat' ((first|(apply A0;omega)|apply FH)<;>conv=>whnf))
    refine BL [(5,46)] (by (conv=>whnf);exact ⟨rfl,rfl,rfl⟩) (ih (i+1) (o++[(c+x+y)%4294967296]) ((c+x+y)/4294967296) (by omega) ⟨by omega,by simp;omega,p3.append (HD (by omega)),by omega,?_⟩);exact m4 (c+x+y) (by omega)
   ·rw[<-getD_none (show b.length<=i by omega)]at m4
    (repeat' ((first|(apply AG<;>intro hc<;>try omega)|(apply F5;omega)|(apply CF;omega)|apply FU|apply AW|(refine BD (by assumption) ?_ rfl ?_;omega)|apply FI|apply AC)<;>conv=>whnf))
    refine FS (enc:=AL) (((c+x)%4294967296:Nat)) rfl rfl rfl (by omega) (by omega) ?_;(conv=>whnf)
    (repeat' ((first|(apply A0;omega)|apply FH)<;>conv=>whnf))
    refine BL [(5,46)] (by (conv=>whnf);exact ⟨rfl,rfl,rfl⟩) (ih (i+1) (o++[(c+x)%4294967296]) ((c+x)/4294967296) (by omega) ⟨by omega,by simp;omega,p3.append (HD (by omega)),by omega,?_⟩);exact m4 (c+x) (by omega)
  ·obtain ⟨y,hy⟩ : ∃ y,b[i]? = some y:=⟨_,zE (by omega)⟩
   have ue:=hB.at hy;rw[GP hy,<-getD_none (show a.length<=i by omega)]at m4;(repeat' ((first|(apply AG<;>intro hc<;>try omega)|(apply F5;omega)|(apply CF;omega)|apply FU|apply AW|(refine BD (by assumption) ?_ rfl ?_;omega)|apply FI|apply AC)<;>conv=>whnf))
   refine FS (enc:=AL) (((c+y)%4294967296:Nat)) rfl rfl rfl (by omega) (by omega) ?_;(conv=>whnf)
   (repeat' ((first|(apply A0;omega)|apply FH)<;>conv=>whnf))
   refine BL [(5,46)] (by (conv=>whnf);exact ⟨rfl,rfl,rfl⟩) (ih (i+1) (o++[(c+y)%4294967296]) ((c+y)/4294967296) (by omega) ⟨by omega,by simp;omega,p3.append (HD (by omega)),by omega,?_⟩);exact m4 (c+y) (by omega)
 ·clear ih
  have hv:val (o++[c])=val a+val b:=by
   rw[DB (by omega),DB (by omega)]at p5;rw[NV,p2,p5]
  have hT:=λ q=>GG N (o++[c]) q (p3.append (HD (by omega))) (by simp;omega)
  rw[hv]at hT;(repeat' ((first|(apply AG<;>intro hc<;>try omega)|(apply EH;omega)|apply AW|apply FI|apply AC)<;>conv=>whnf))
  refine FS (enc:=AL) c rfl rfl rfl (by omega) (by omega) ?_;(conv=>whnf)
  (repeat' ((first|(refine GC (λ_=>rfl) rfl ?_ ?_;(first|rfl|simp))|refine AE (hT _) ?_)<;>conv=>whnf))
  exact AY rfl (JK _)
theorem XY {a b:Nat} (h:b<=a):0<=DC a b:=by unfold DC;split<;>(try split)<;>omega
theorem AfY {V Y X p d e bw have' take w du:Nat} (h:V+Y=X+p*bw) (h1:take=bw+e) (h2:(have'=d/\du=0/\take<=d)\/(have'=d+4294967296/\du=1/\d<take)) (h3:w+take=have'):V+p*w+(Y+p*e)=X+p*d+p*4294967296*du:=by
 have h4:w+bw+e=d+4294967296*du:=by omega
 have h5:p*(w+bw+e)=p*(d+4294967296*du):=by rw[h4]
 rw[Nat.mul_add,Nat.mul_add,Nat.mul_add,<-Nat.mul_assoc]at h5;omega
theorem tC (N:b8 L) (x y:List Nat) (hX:A1 x) (hY:A1 y) (lx:x.length<=549755813888) (ly:y.length<=549755813888) (hle:val y<=val x) :
  AA L [It.lp JA.l1,It.g8 0,It.code (((BK.ops JA.fk false).dr [1,5,6,7,21,53,54] []).seq BK.ret)]
  [(7,AV.int IntKind.i64 0),(6,AV.int IntKind.u64 0),(5,AV.row 101021 0 1 0 x.length),(1,AV.sl false (List.map AL y))]
  [(101021,101021,BC.rw 1 (List.map AL x))]
  (PI JA (AV.sl false (List.map AL (dg (val x-val y))))):=by
 refine F4 (λ i _ _=>x.length-i) (λ(i:Nat) (o:List Nat) (bw:Nat)=>i<=x.length/\o.length=x.length/\A1 o/\bw<=1/\o.drop i=x.drop i/\val (o.take i)+val (y.take i)=val (x.take i)+4294967296^i*bw) (λ i o bw=>[(7,.int .i64 i),(6,.int .u64 (bw:Int))]) (λ i o bw=>[(101021,101021,.rw 1 (o.map AL))]) 0 x 0 ⟨by omega,rfl,hX,by omega,rfl,by simp [val]⟩ ?_;intro i o bw ⟨p1,p2,p3,p4,p5,p6⟩ ih;by_cases hi:i<x.length
 ·obtain ⟨d,hd⟩ : ∃ d,o[i]? = some d:=⟨_,zE (by omega)⟩
  have dw:=p3.at hd;have Nq:x[i]? = some d:=by
   have e1:(o.drop i)[0]? = (x.drop i)[0]? := by rw[p5]
   simpa [hd] using e1.symm
  have g1:=EB Nq;have g2:=iT (y:=y) i;have ge:=PX hY i;have m4 : ∀ have' take w du,take=bw+y.getD i 0->((have'=d/\du=0/\take<=d)\/(have'=d+4294967296/\du=1/\d<take))->w+take=have'->val ((o.set i w).take (i+1))+val (y.take (i+1))=val (x.take (i+1))+4294967296^(i+1)*du:=λ have' take w du a1 a2 a3=>by
   rw[F3 (by omega),g1,g2,Nat.pow_succ];exact AfY p6 a1 a2 a3
  have qk : ∀ w,(o.set i w).drop (i+1)=x.drop (i+1):=λ w=>by
   rw[List.drop_set_of_lt (by omega)];have e1:(o.drop i).drop 1=(x.drop i).drop 1:=by rw[p5]
   simpa using e1
  by_cases hy:i<y.length
  ·obtain ⟨e,he⟩ : ∃ e,y[i]? = some e:=⟨_,zE hy⟩
   have Lf:=hY.at he;rw[GP he]at m4;by_cases o7:d<bw+e
   ·have h3:=m4 (d+4294967296) (bw+e) (d+4294967296-(bw+e)) 1 (by omega) (Or.inr ⟨rfl,rfl,o7⟩) (by omega)
    (repeat' ((first|(apply AG<;>intro hc<;>try omega)|(apply AU;omega)|(apply F5;omega)|(apply I3;omega;omega)|(apply W3;omega)|(apply CF;omega)|(apply EH;omega)|apply AW|(refine BD (by assumption) ?_ rfl ?_;omega)|refine JI (by assumption) ?_|apply AC)<;>conv=>whnf))
    refine FC (by omega) ?_;(conv=>whnf)
    (repeat' ((first|(apply A0;omega)|fail)<;>conv=>whnf))
    exact BL [] (by (conv=>whnf);exact ⟨rfl,rfl,rfl⟩) (ih (i+1) (o.set i (d+4294967296-(bw+e))) 1 (by omega) ⟨by omega,by simpa using p2,p3.set _ (by omega),by omega,qk _,h3⟩)
   ·have h3:=m4 d (bw+e) (d-(bw+e)) 0 (by omega) (Or.inl ⟨rfl,rfl,by omega⟩) (by omega)
    (repeat' ((first|(apply AG<;>intro hc<;>try omega)|(apply AU;omega)|(apply F5;omega)|(apply I3;omega;omega)|(apply CF;omega)|(apply EH;omega)|apply AW|(refine BD (by assumption) ?_ rfl ?_;omega)|refine JI (by assumption) ?_|apply AC)<;>conv=>whnf))
    refine FC (by omega) ?_;(conv=>whnf)
    (repeat' ((first|(apply A0;omega)|fail)<;>conv=>whnf))
    exact BL [] (by (conv=>whnf);exact ⟨rfl,rfl,rfl⟩) (ih (i+1) (o.set i (d-(bw+e))) 0 (by omega) ⟨by omega,by simpa using p2,p3.set _ (by omega),by omega,qk _,h3⟩)
  ·rw[<-getD_none (show y.length<=i by omega)]at m4
   by_cases o7:d<bw
   ·have h3:=m4 (d+4294967296) (bw) (d+4294967296-(bw)) 1 (by omega) (Or.inr ⟨rfl,rfl,o7⟩) (by omega)
    (repeat' ((first|(apply AG<;>intro hc<;>try omega)|(apply AU;omega)|(apply I3;omega;omega)|(apply W3;omega)|(apply CF;omega)|(apply EH;omega)|apply AW|refine JI (by assumption) ?_|apply AC)<;>conv=>whnf))
    refine FC (by omega) ?_;(conv=>whnf)
    (repeat' ((first|(apply A0;omega)|fail)<;>conv=>whnf))
    exact BL [] (by (conv=>whnf);exact ⟨rfl,rfl,rfl⟩) (ih (i+1) (o.set i (d+4294967296-(bw))) 1 (by omega) ⟨by omega,by simpa using p2,p3.set _ (by omega),by omega,qk _,h3⟩)
   ·have h3:=m4 d (bw) (d-(bw)) 0 (by omega) (Or.inl ⟨rfl,rfl,by omega⟩) (by omega)
    (repeat' ((first|(apply AG<;>intro hc<;>try omega)|(apply AU;omega)|(apply I3;omega;omega)|(apply CF;omega)|(apply EH;omega)|apply AW|refine JI (by assumption) ?_|apply AC)<;>conv=>whnf))
    refine FC (by omega) ?_;(conv=>whnf)
    (repeat' ((first|(apply A0;omega)|fail)<;>conv=>whnf))
    exact BL [] (by (conv=>whnf);exact ⟨rfl,rfl,rfl⟩) (ih (i+1) (o.set i (d-(bw))) 0 (by omega) ⟨by omega,by simpa using p2,p3.set _ (by omega),by omega,qk _,h3⟩)
 ·obtain rfl:i=x.length:=by omega
  clear ih;rw[DB (by omega),DB (Nat.le_refl _)]at p6;have h1:=E5 p3;rw[p2]at h1;have h2:val (y.take x.length)<=val y:=by have:=SE y x.length;omega
  have Ao:bw=0:=by
   rcases Nat.eq_zero_or_pos bw with h|h
   ·exact h
   ·have:bw=1:=by omega
    subst this;omega
  subst Ao;have hve:val (y.take x.length)=val y:=by
   have h3:=SE y x.length;rcases Nat.eq_zero_or_pos (val (y.drop x.length)) with h|h
   ·rw[h]at h3;omega
   ·have h4:4294967296^x.length*1<=4294967296^x.length*val (y.drop x.length):=Nat.mul_le_mul_left _ h
    have h5:=E5 hX;omega
  have hv:val o=val x-val y:=by omega
  have hT:=λ q=>GG N o q p3 (by omega)
  rw[<-hv,<-p2];(repeat' ((first|(apply AG<;>intro hc<;>try omega)|(refine GC (λ_=>rfl) rfl ?_ ?_;(first|rfl|simp))|apply AC|refine AE (hT _) ?_)<;>conv=>whnf))
  exact AY rfl (JK _)
theorem dE (N:b8 L) (a b:List Nat) (q1 q2:Bool) (hA:A1 a) (hB:A1 b) (la:a.length<=549755813888) (lb:b.length<=549755813888):Ev L 104 [.sl q1 (a.map AL),.sl q2 (b.map AL)] (.sl false ((dg (val a-val b)).map AL)):=by
 have n8:=λ q q'=>dC N a b q q' hA hB (by omega) (by omega)
 have t2:=λ q=>GG N b q hB (by omega)
 refine Ev.x N.JA rfl rfl ?_;by_cases o7:val a<val b
 ·rw[<-H3 (by omega)]at n8
  rw[show val a-val b=0 by omega,E4];(repeat' ((first|(apply AG<;>intro hc<;>try omega)|apply AC|refine AE (n8 _ _) ?_)<;>conv=>whnf))
  exact AY rfl (JK [])
 ·have qo:=XY (show val b<=val a by omega)
  generalize DC (val a) (val b)=cm at *;have d2:=EA (val b);have v2:=BW (val b);have l2:=EX hB;rw[<-v2];rw[<-v2]at o7;generalize dg (val b)=y at *;have Ip : ∀ n,a.take n=dg (val a)->val (a.take n)=val a:=λ n h=>by rw[h,BW]
  (repeat' ((first|(apply AG<;>intro hc<;>try omega)|apply AC|refine AE (n8 _ _) ?_|refine AE (t2 _) ?_)<;>conv=>whnf))
  refine E2 1000 N.HH rfl rfl ?_;(repeat' ((first|apply AW|apply AC)<;>conv=>whnf))
  refine DT (λ n=>n) (λ(n:Nat)=>n<=a.length /\ ∀ i,n<=i->i<a.length->a[i]? = some 0) (λ n=>[(3,.int .i64 n)]) (λ_=>[]) a.length ⟨Nat.le_refl _,λ i h1 h2=>by omega⟩ ?_;intro n ⟨p1,p2⟩ ih;rcases n with _|n
  ·have hv:=Ip _ (GE hA p1 p2 (Or.inl rfl))
   clear ih;(repeat' ((first|(apply AG<;>intro hc<;>try omega)|apply AC)<;>conv=>whnf))
   refine SR (k:=0) (λ_=>rfl) (by omega) ?_;(conv=>whnf)
   refine PE (enc:=AL) (λ_=>rfl) (by rw[List.length_take];omega) (by rw[List.length_take];omega) ?_;(conv=>whnf)
   refine ⟨rfl,_,rfl,?_⟩;(conv=>whnf)
   skip
   rw[<-hv];exact BL [] (by (conv=>whnf);exact ⟨rfl,rfl,rfl⟩) (tC N (a.take 0) y (hA.take _) d2 (by simp) (by omega) (by omega))
  ·have e1:((n+1:Nat):Int)-1=n:=by omega
   (repeat' ((first|(apply AG<;>intro hc<;>try omega)|(apply CE;omega)|(refine PH (by assumption) ?_ (λ e he hb => ?_);omega)|apply AC)<;>conv=>whnf))
   ·rw[e1]
    exact BR [] (ih n (by omega) ⟨by omega,λ i h1 h2=>by
     by_cases h:i=n
     ·subst h
      rw[e1,Int.toNat_natCast]at he;rw[he];congr 1;omega
     ·exact p2 i (by omega) h2⟩)
   ·rw[e1,Int.toNat_natCast]at he
    have hv:=Ip _ (GE hA p1 p2 (Or.inr ⟨_,he,by omega⟩));clear ih;refine SR (k:=n+1) (λ_=>rfl) (by omega) ?_;(conv=>whnf)
    refine PE (enc:=AL) (λ_=>rfl) (by rw[List.length_take];omega) (by rw[List.length_take];omega) ?_;(conv=>whnf)
    refine ⟨rfl,_,rfl,?_⟩;(conv=>whnf)
    skip
    rw[<-hv];exact BL [] (by (conv=>whnf);exact ⟨rfl,rfl,rfl⟩) (tC N (a.take (n+1)) y (hA.take _) d2 (by rw[List.length_take];omega) (by omega) (by omega))
theorem Adl (N:b8 L) (x y:List Nat) (q1 q2:Bool) (hA:A1 x) (hB:A1 y) (Qn:x.length+y.length<=549755813888):Ev L 105 [.sl q1 (x.map AL),.sl q2 (y.map AL)] (.sl false ((dg (val x*val y)).map AL)):=by
 refine Ev.x N.MU rfl rfl ?_;(repeat' ((first|(apply A0;omega)|apply AW|apply AC)<;>conv=>whnf))
 refine ER (enc:=AL) 0 (x.length+y.length+1) rfl (by omega) (by omega) ?_;(conv=>whnf)
 skip
 refine GW (λ i _=>x.length-i) (λ(i:Nat) (o:List Nat)=>i<=x.length/\o.length=x.length+y.length+1/\A1 o/\val o=val (x.take i)*val y /\ ∀ k,i+y.length<=k->k<o.length->o[k]? = some 0) (λ i o=>[(6,.int .i64 i)]) (λ i o=>[(15,15,.rw 1 (o.map AL))]) 0 (List.replicate (x.length+y.length+1) 0) ⟨by omega,by simp,I5 _,by simp [val,aK],λ k h1 h2=>by simp at h2;simp [h2]⟩ ?_;intro i O ⟨p1,p2,p3,p4,p5⟩ ih;by_cases hi:i<x.length
 ·obtain ⟨d,hd⟩ : ∃ d,x[i]? = some d:=⟨_,zE hi⟩
  have dw:=hA.at hd;(repeat' ((first|(apply AG<;>intro hc<;>try omega)|apply AW|apply AC)<;>conv=>whnf))
  refine F4 (λ j _ _=>y.length-j) (λ(j:Nat) (o:List Nat) (c:Nat)=>j<=y.length/\o.length=x.length+y.length+1/\A1 o/\c<4294967296/\val o+4294967296^(i+j)*c=val O+4294967296^i*(d*val (y.take j)) /\ ∀ k,i+j<=k->o[k]? = O[k]?) (λ j o c=>[(7,.int .u64 (c:Int)),(8,.int .i64 j)]) (λ j o c=>[(15,15,.rw 1 (o.map AL))]) 0 O 0 ⟨by omega,p2,p3,by omega,by simp [val],λ_ _=>rfl⟩ ?_;intro j o c ⟨r1,r2,r3,r4,r5,r6⟩ jh;have e1:((i:Int)+j).toNat=i+j:=by omega
  by_cases hj:j<y.length
  ·obtain ⟨w,hw⟩ : ∃ w,y[j]? = some w:=⟨_,zE hj⟩
   have xp:=hB.at hw;have hm:=TK dw xp;(repeat' ((first|(apply AG<;>intro hc<;>try omega)|(apply AU;omega)|(apply A0;omega)|(apply F5;omega)|(apply OK;omega)|(apply CF;omega)|apply FU|apply AW|(refine BD (by assumption) ?_ rfl ?_;omega)|(refine jR (by assumption) ?_ (λ v hv hb => ?_);omega)|apply AC)<;>conv=>whnf))
   refine XC (i+j) (by omega) (by omega) ?_;(conv=>whnf)
   (repeat' ((first|(apply A0;omega)|apply FH)<;>conv=>whnf))
   refine BL [] (by (conv=>whnf);exact ⟨rfl,rfl,rfl⟩) (jh (j+1) _ _ (by omega) ⟨by omega,by simpa using r2,r3.set _ (by omega),by omega,?_,?_⟩)
   ·have h1:=aH (v:=(c+(d*w+v))%4294967296) hv
    have h2:=OR 0 (4294967296^(i+j)) (c+(d*w+v));rw[EB hw,show i+(j+1)=i+j+1 by omega,Nat.pow_succ (4294967296) (i+j)];have h3:4294967296^i*(d*(val (y.take j)+4294967296^j*w))=4294967296^i*(d*val (y.take j))+4294967296^(i+j)*(d*w):=by rw[Nat.pow_add];grind
    rw[h3];generalize 4294967296^(i+j)=P at *;rw[Nat.mul_add P c,Nat.mul_add P]at h2;omega
   ·intro k hk
    rw[List.getElem?_set_ne (by omega)];exact r6 k (by omega)
  ·obtain rfl:j=y.length:=by omega
   clear jh;have hz:=r6 (i+y.length) (by omega);rw[p5 (i+y.length) (by omega) (by omega)]at hz;(repeat' ((first|(apply AG<;>intro hc<;>try omega)|(apply AU;omega)|(apply A0;omega)|(apply EH;omega)|apply AW|apply AC)<;>conv=>whnf))
   refine XC (i+y.length) (by omega) (by omega) ?_;(conv=>whnf)
   (repeat' ((first|(apply A0;omega)|fail)<;>conv=>whnf))
   refine BL [] (by (conv=>whnf);exact ⟨rfl,rfl,rfl⟩) (ih (i+1) _ (by omega) ⟨by omega,by simpa using r2,r3.set _ (by omega),?_,?_⟩)
   ·have h1:=aH (v:=c) hz
    rw[Nat.mul_zero,Nat.add_zero]at h1;rw[h1,r5,p4,DB (Nat.le_refl _),EB hd,Nat.add_mul,Nat.mul_assoc]
   ·intro k h1 h2
    rw[List.length_set]at h2;rw[List.getElem?_set_ne (by omega),r6 k (by omega)];exact p5 k (by omega) (by omega)
 ·obtain rfl:i=x.length:=by omega
  clear ih;rw[DB (Nat.le_refl _)]at p4;have hT:=λ q=>GG N O q p3 (by omega)
  rw[p4]at hT;rw[<-p2];(repeat' ((first|(apply AG<;>intro hc<;>try omega)|apply AW|(refine GC (λ_=>rfl) rfl ?_ ?_;(first|rfl|simp))|apply AC|refine AE (hT _) ?_)<;>conv=>whnf))
  exact AY rfl (JK _)
theorem Wn {d:Nat} (h0:d≠0) (hd:d<4294967296):dg d=[d]:=by
 rw[I4 h0,Nat.div_eq_of_lt hd,E4,Nat.mod_eq_of_lt hd]
theorem Adj (N:b8 L) (d:Nat) (q:Bool) (h0:d≠0) (hd:d<4294967296):Ev L 106 [.sl q ([d].map AL)] (.int .i64 (u7 d:Int)):=by
 have hT:=λ q=>GG N [d] q (HD hd) (by simp)
 rw[show val [d]=d by simp [val],Wn h0 hd]at hT;have zh:[d].length=1:=rfl;have Dv:[d][(([d].length:Int)-1).toNat]? = some d:=rfl;have hb:=XH (k:=32) hd;refine Ev.x N.MR rfl rfl ?_;(repeat' ((first|(apply AG<;>intro hc<;>try omega)|(apply CE;omega)|(apply QS;omega)|apply AW|(refine BD (by assumption) ?_ rfl ?_;omega)|apply AC|refine AE (hT _) ?_)<;>conv=>whnf))
 refine GW (λ_ x=>x) (λ(n x:Nat)=>n+u7 x=u7 d/\x<=d) (λ n x=>[(3,.int .i64 n),(4,.int .u32 (x:Int))]) (λ_ _=>[]) 0 d ⟨by omega,Nat.le_refl _⟩ ?_;intro n x ⟨p1,p2⟩ ih;by_cases hx:x=0
 ·subst hx
  have:u7 0=0:=by unfold u7;simp
  (repeat' ((first|(apply AG<;>intro hc<;>try omega)|apply AC)<;>conv=>whnf))
  exact EI (by omega)
 ·have h1:u7 (x/2)+1=u7 x:=by
   by_cases h1:x=1
   ·subst h1;decide
   ·exact UQ 1 (x:=x) (by omega)
  (repeat' ((first|(apply AG<;>intro hc<;>try omega)|(apply A0;omega)|apply yX|apply AC)<;>conv=>whnf))
  exact BR [] (ih (n+1) (x/2) (by omega) ⟨by omega,by omega⟩)
theorem wC {V P X lo s d p t:Nat} (h:V+P*p*lo=P*(X*2^s)) (ht:t=lo+d*2^s):V+P*p*(t%4294967296)+P*p*4294967296*(t/4294967296)=P*((X+p*d)*2^s):=by
 have h1:=OR V (P*p) t;rw[h1,ht];have:P*((X+p*d)*2^s)=P*(X*2^s)+P*p*(d*2^s):=by grind
 rw[this,<-h,Nat.mul_add];omega
theorem oK (N:b8 L) (l:List Nat) (q:Bool) (n:Nat) (hD:A1 l) (hl:l.length<=549755813888) (hn:n<=65536):Ev L 107 [.sl q (l.map AL),.int .i64 (n:Int)] (.sl false ((dg (val l*2^n)).map AL)):=by
 have hT:=λ q=>GG N l q hD (by omega)
 have d1:=EA (val l);have v1:=BW (val l);have l1:=EX hD;have hz:=H5 (val l);refine Ev.x N.IJ rfl rfl ?_;by_cases h0:val l=0
 ·rw[h0,Nat.zero_mul,E4]
  (repeat' ((first|(apply AG<;>intro hc<;>try omega)|apply AW|apply AC|refine AE (hT _) ?_)<;>conv=>whnf))
  exact AY rfl (JK [])
 rw[<-v1];generalize dg (val l)=x at *;have ff:n%32<32:=Nat.mod_lt _ (by omega);have e1:(n:Int)/32=((n/32:Nat):Int):=by omega
 have e2:(n:Int)%32=((n%32:Nat):Int):=by omega
 (repeat' ((first|(apply AG<;>intro hc<;>try omega)|(refine QT ?_ ?_ (λ_ => ?_) (λ_ _ => ?_);omega;omega;all_goals try omega)|apply AW|apply AC|refine AE (hT _) ?_)<;>conv=>whnf))
 rw[e1];refine ER (enc:=AL) 0 (n/32) rfl rfl (by omega) ?_;(conv=>whnf)
 skip
 refine F4 (λ i _ _=>x.length-i) (λ(i:Nat) (o:List Nat) (c:Nat)=>i<=x.length/\o.length=n/32+i/\A1 o/\c<2^(n%32)/\val o+4294967296^(n/32)*4294967296^i*c=4294967296^(n/32)*(val (x.take i)*2^(n%32))) (λ i o c=>[(10,.int .i64 i),(9,.int .u64 (c:Int)),(8,.row 107069 0 1 0 (n/32+i))]) (λ i o c=>[(107069,107069,.rw 1 (o.map AL))]) 0 (List.replicate (n/32) 0) 0 ⟨by omega,by simp,I5 _,Nat.two_pow_pos _,by simp [val,aK]⟩ ?_;intro i o c ⟨p1,p2,p3,p4,p5⟩ ih;have ve:=V0 (s:=n%32) (by omega);by_cases hi:i<x.length
 ·obtain ⟨d,hd⟩ : ∃ d,x[i]? = some d:=⟨_,zE hi⟩
  have dw:=d1.at hd;obtain ⟨f1,f2,f3,f4⟩:=R6 (s:=n%32) dw (by omega);have hr:=Y3 (show n%32<=64 by omega) f4;(repeat' ((first|(apply AG<;>intro hc<;>try omega)|(refine UF ?_ (λ_ _ _ => ?_) (λ_ _ _ _ => ?_);omega;all_goals try omega)|(apply CF;omega)|apply AW|(refine BD (by assumption) ?_ rfl ?_;omega)|apply AC)<;>conv=>whnf))
  rw[e2];refine ON (by omega) f4 ?_;(conv=>whnf)
  skip
  refine W4 (n%32) (Nat.mul_mod_left _ _) p4 (by omega) ?_;(conv=>whnf)
  have m4:=wC (d:=d) p5 rfl;have oa:(c+d*2^(n%32))/4294967296<2^(n%32):=by
   rw[Nat.div_lt_iff_lt_mul (by omega)];have:=zR (2^(n%32)) (show d<=4294967295 by omega)
   omega
  generalize c+d*2^(n%32)=t at *;(repeat' ((first|apply FU|apply FI)<;>conv=>whnf))
  refine FS (enc:=AL) (t%4294967296) rfl p2.symm rfl (by omega) (by omega) ?_;(conv=>whnf)
  (repeat' ((first|(apply A0;omega)|apply FH)<;>conv=>whnf))
  rw[show (o++[t%4294967296]).length=n/32+(i+1) by simp [p2];omega];refine BL [(107069,107091)] (by (conv=>whnf);exact ⟨rfl,rfl,rfl⟩) (ih (i+1) (o++[t%4294967296]) (t/4294967296) (by omega) ⟨by omega,by simp;omega,p3.append (HD (by omega)),oa,?_⟩);rw[NV,p2,EB hd,Nat.pow_add,Nat.pow_succ,<-Nat.mul_assoc];exact m4
 ·obtain rfl:i=x.length:=by omega
  clear ih;have lk:c<4294967296:=by omega
  have hOD:A1 (o++[c]):=p3.append (HD lk);have Aj:val (o++[c])=val x*2^n:=by
   rw[NV,p2,Nat.pow_add,p5,DB (Nat.le_refl _)];have e3:2^n=4294967296^(n/32)*2^(n%32):=by
    rw[show 4294967296=2^32 from rfl,<-Nat.pow_mul,<-Nat.pow_add];congr 1;omega
   rw[e3];grind
  have Ff:(o++[c]).length=n/32+x.length+1:=by simp [p2]
  (repeat' ((first|(apply AG<;>intro hc<;>try omega)|(apply EH;omega)|apply AW|apply FI|apply AC)<;>conv=>whnf))
  refine FS (enc:=AL) c rfl p2.symm rfl (by omega) (by omega) ?_;(conv=>whnf)
  rw[<-Aj,Ff];generalize o++[c]=O at *;rw[<-Ff];clear p3 p4 p5 Aj;refine E2 1000 N.HH rfl rfl ?_;(repeat' (apply AC<;>conv=>whnf))
  refine DT (λ n=>n) (λ(n:Nat)=>n<=(O).length /\ ∀ i,n<=i->i<(O).length->(O)[i]? = some 0) (λ n=>[(3,.int .i64 n)]) (λ_=>[]) (O).length ⟨Nat.le_refl _,λ i h1 h2=>by omega⟩ ?_;intro n ⟨p1,p2⟩ ih;rcases n with _|n
  ·(repeat' ((first|(apply AG<;>intro hc<;>try omega)|apply AC)<;>conv=>whnf))
   refine G9 0 (by omega) (by omega) ?_;(conv=>whnf)
   have dk:=GE (l:=O) (by assumption) p1 p2 (Or.inl rfl);have u9:(List.take 0 O).length<=(O).length:=by rw[List.length_take];omega
   clear ih p2;refine XA (enc:=AL) (by omega) ?_;(conv=>whnf)
   rw[List.drop_zero,Nat.sub_zero];generalize Ke:List.take 0 O=T0 at *;refine PE (enc:=AL) (λ_=>rfl) (by omega) (by omega) ?_;(conv=>whnf)
   refine ⟨rfl,_,rfl,?_⟩;(conv=>whnf)
   (refine GC (enc:=AL) (λ_=>rfl) rfl rfl ?_;(conv=>whnf);exact AY (by rw[<-dk]) (JK _))
  ·have e1:((n+1:Nat):Int)-1=n:=by omega
   (repeat' ((first|(apply AG<;>intro hc<;>try omega)|(apply AU;omega)|(apply CE;omega)|(refine QQ (by assumption) ?_ (λ v hv hb => ?_);omega)|apply AC)<;>conv=>whnf))
   ·rw[e1]
    exact BR [] (ih n (by omega) ⟨by omega,λ i h1 h2=>by
     by_cases h:i=n
     ·subst h
      rw[e1,Int.toNat_natCast]at hv;rw[hv];congr 1;omega
     ·exact p2 i (by omega) h2⟩)
   ·refine G9 (n+1) (by omega) (by omega) ?_
    (conv=>whnf)
    rw[e1,Int.toNat_natCast]at hv;have dk:=GE (l:=O) (by assumption) p1 p2 (Or.inr ⟨_,hv,by omega⟩);have u9:(List.take (n+1) O).length<=(O).length:=by rw[List.length_take];omega
    clear ih p2 hv;(rw[kK (l:=O)];rotate_left;exact rfl;exact rfl);(conv=>whnf)
    refine XA (enc:=AL) (by omega) ?_;(conv=>whnf)
    rw[List.drop_zero,Nat.sub_zero];generalize Ke:List.take (n+1) O=T0 at *;refine PE (enc:=AL) (λ_=>rfl) (by omega) (by omega) ?_;(conv=>whnf)
    refine ⟨rfl,_,rfl,?_⟩;(conv=>whnf)
    (refine GC (enc:=AL) (λ_=>rfl) rfl rfl ?_;(conv=>whnf);exact AY (by rw[<-dk]) (JK _))
theorem AhB {l:List Nat} (hD:A1 l) (k:Nat) (hk:k<=l.length):val (l.drop k)=val l/4294967296^k:=by
 have h1:=J9 l k hk;have h2:=E5 (hD.take k);rw[List.length_take,Nat.min_eq_left hk]at h2;rw[h1,Nat.add_mul_div_left _ _ (Nat.pow_pos (by omega)),Nat.div_eq_of_lt h2,Nat.zero_add]
theorem Afv (n:Nat):2^n=4294967296^(n/32)*2^(n%32):=by
 rw[show 4294967296=2^32 from rfl,<-Nat.pow_mul,<-Nat.pow_add];congr 1;omega
theorem Yn {d e V r:Nat} (hd:d<4294967296) (hr:r<32):(d+e*4294967296)/2^r%4294967296+4294967296*((e+4294967296*V)/2^r)=(d+4294967296*(e+4294967296*V))/2^r:=by
 obtain ⟨f1,f2,f3⟩:=rF (V:=e) hd (show r<=32 by omega);rw[eT (d:=d) (V:=e+4294967296*V) (by omega),rG (d:=e) (V:=V) (by omega)];have h1:=eT (d:=d) (V:=e) (s:=r) (by omega);rw[show d+e*4294967296=d+4294967296*e by omega,h1];clear h1;generalize d/2^r=A at *;generalize e%2^r*2^(32-r)=Q at *;generalize e/2^r=Z at *;generalize 2^(32-r)=P at *;omega
theorem Adm (N:b8 L) (l:List Nat) (q:Bool) (n:Nat) (hD:A1 l) (hl:l.length<=549755813888) (hn:1<=n/\n<=65536):Ev L 107 [.sl q (l.map AL),.int .i64 (-(n:Int))] (.sl false ((dg (val l/2^n)).map AL)):=by
 have hT:=λ q=>GG N l q hD (by omega)
 have d1:=EA (val l);have v1:=BW (val l);have l1:=EX hD;have hz:=H5 (val l);refine Ev.x N.IJ rfl rfl ?_;by_cases h0:val l=0
 ·rw[h0,Nat.zero_div,E4]
  (repeat' ((first|(apply AG<;>intro hc<;>try omega)|apply AW|apply AC|refine AE (hT _) ?_)<;>conv=>whnf))
  exact AY rfl (JK [])
 rw[<-v1];generalize dg (val l)=x at *;have Ml:n%32<32:=Nat.mod_lt _ (by omega);have e1:(- -(n:Int))/32=((n/32:Nat):Int):=by omega
 have e2:(- -(n:Int))%32=((n%32:Nat):Int):=by omega
 by_cases Ami:32*x.length<n
 ·have o7:val x/2^n=0:=by
   refine Nat.div_eq_of_lt (Nat.lt_of_lt_of_le (E5 d1) ?_);rw[show 4294967296=2^32 from rfl,<-Nat.pow_mul];exact Nat.pow_le_pow_right (by omega) (by omega)
  rw[o7,E4];(repeat' ((first|(apply AG<;>intro hc<;>try omega)|(apply QS;omega)|apply AW|apply AC|refine AE (hT _) ?_)<;>conv=>whnf))
  exact AY rfl (JK [])
 have hk:n/32<=x.length:=by omega
 have hvd:=AhB d1 _ hk;(repeat' ((first|(apply AG<;>intro hc<;>try omega)|(apply QS;omega)|(refine QT ?_ ?_ (λ_ => ?_) (λ_ _ => ?_);omega;omega;all_goals try omega)|(apply CZ.neg;omega)|apply AW|apply AC|refine AE (hT _) ?_)<;>conv=>whnf))
 rw[e1];refine GW (λ i _=>x.length-i) (λ(i:Nat) (o:List Nat)=>n/32<=i/\i<=x.length/\o.length=i-n/32/\A1 o/\val o+4294967296^(i-n/32)*(val (x.drop i)/2^(n%32))=val (x.drop (n/32))/2^(n%32)) (λ i o=>[(6,.int .i64 i),(5,.row 107005 0 1 0 o.length)]) (λ i o=>[(107005,107005,.rw 1 (o.map AL))]) (n/32) [] ⟨Nat.le_refl _,hk,by simp,S0,by simp [val]⟩ ?_;intro i o ⟨p0,p1,p2,p3,p5⟩ ih;by_cases hi:i<x.length
 ·obtain ⟨d,hd⟩ : ∃ d,x[i]? = some d:=⟨_,zE hi⟩
  have dw:=d1.at hd;have g1:=G8 hd;have g2:=SD x (i+1);have g3:=Yn (e:=x.getD (i+1) 0) (V:=val (x.drop (i+1+1))) dw Ml;rw[<-g2,<-g1]at g3;have key : ∀ t,t=d+x.getD (i+1) 0*4294967296->val (o++[t/2^(n%32)%4294967296])+4294967296^(i+1-n/32)*(val (x.drop (i+1))/2^(n%32))=val (x.drop (n/32))/2^(n%32):=λ t ht=>by
   rw[NV,p2,show i+1-n/32=(i-n/32)+1 by omega,Nat.pow_succ,ht,Nat.add_assoc,Nat.mul_assoc,<-Nat.mul_add,g3];exact p5
  by_cases hy:i+1<x.length
  ·obtain ⟨e,he⟩ : ∃ e,x[i+1]? = some e:=⟨_,zE hy⟩
   have Lf:=d1.at he;have ju:x[((i:Int)+1).toNat]? = some e:=by rw[show ((i:Int)+1).toNat=i+1 by omega];exact he
   rw[GP he]at key;(repeat' ((first|(apply AG<;>intro hc<;>try omega)|(apply A0;omega)|(apply NY;omega)|(apply CF;omega)|apply AW|(refine BD (by assumption) ?_ rfl ?_;omega)|apply AC)<;>conv=>whnf))
   refine W4 32 (Nat.mul_mod_left _ _) (by omega) (by omega) ?_;(conv=>whnf)
   (repeat' ((first|(refine UF ?_ (λ_ _ _ => ?_) (λ_ _ _ _ => ?_);omega;all_goals try omega)|(apply CF;omega))<;>conv=>whnf))
   rw[e2];refine OM (n:=n%32) (by show n%32<=64;omega) ?_;(conv=>whnf)
   (repeat' ((first|apply FU|apply FI)<;>conv=>whnf))
   refine FS (enc:=AL) ((d+e*4294967296)/2^(n%32)%4294967296) rfl rfl rfl (by omega) (by omega) ?_;(conv=>whnf)
   (repeat' ((first|(apply A0;omega)|fail)<;>conv=>whnf))
   exact BR [(107005,107064)] (ih (i+1) (o++[(d+e*4294967296)/2^(n%32)%4294967296]) (by omega) ⟨by omega,by omega,by simp;omega,p3.append (HD (by omega)),key (d+e*4294967296) rfl⟩)
  ·rw[<-getD_none (show x.length<=i+1 by omega),Nat.zero_mul]at key
   (repeat' ((first|(apply AG<;>intro hc<;>try omega)|(apply A0;omega)|(refine UF ?_ (λ_ _ _ => ?_) (λ_ _ _ _ => ?_);omega;all_goals try omega)|(apply CF;omega)|apply AW|(refine BD (by assumption) ?_ rfl ?_;omega)|apply AC)<;>conv=>whnf))
   rw[e2];refine OM (n:=n%32) (by show n%32<=64;omega) ?_;(conv=>whnf)
   (repeat' ((first|apply FU|apply FI)<;>conv=>whnf))
   refine FS (enc:=AL) (d/2^(n%32)%4294967296) rfl rfl rfl (by omega) (by omega) ?_;(conv=>whnf)
   (repeat' ((first|(apply A0;omega)|fail)<;>conv=>whnf))
   exact BR [(107005,107064)] (ih (i+1) (o++[d/2^(n%32)%4294967296]) (by omega) ⟨by omega,by omega,by simp;omega,p3.append (HD (by omega)),key d rfl⟩)
 ·obtain rfl:i=x.length:=by omega
  clear ih;rw[List.drop_of_length_le (Nat.le_refl _),IZ,Nat.zero_div,Nat.mul_zero,Nat.add_zero,hvd,Nat.div_div_eq_div_mul,<-Afv]at p5;have Bz:=λ q=>GG N o q p3 (by omega)
  rw[p5]at Bz;(repeat' ((first|(apply AG<;>intro hc<;>try omega)|apply AW|(refine GC (λ_=>rfl) rfl ?_ ?_;(first|rfl|simp))|apply AC|refine AE (Bz _) ?_)<;>conv=>whnf))
  exact AY rfl (JK _)
end Go.g6
