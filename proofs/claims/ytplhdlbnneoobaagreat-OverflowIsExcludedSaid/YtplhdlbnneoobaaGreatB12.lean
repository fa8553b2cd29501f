/-
  Sizes of the states that an impulse goes through, plain.
-/
import Derived.Test.YtplhdlbnneoobaaGreatB11
import Derived.Test.YtplhdlbnneoobaaGreatB9
import Derived.Test.YtplhdlbnneoobaaGreatB8
import Derived.Test.YtplhdlbnneoobaaGreatB10
import Derived.Test.YtplhdlbnneoobaaGreatB7
import Derived.Test.YtplhdlbnneoobaaGreatB3
import Derived.Test.YtplhdlbnneoobaaGreatB2
set_option linter.unusedSimpArgs false
set_option linter.unusedVariables false
set_option linter.unnecessarySimpa false
namespace Go.c6
set_option maxHeartbeats 2000000
theorem qM {k:Nat} {x:Rat} {S:Nat} (hS:0<S) (Cd:S<=2^k) (h:Wh k (x*(S:Rat))):Bt k x:=by
 obtain ⟨z,hz,hk⟩:=h;have h0:(S:Rat)≠0:=λ e=>by
  have:((S:Nat):Rat)=((0:Nat):Rat):=e
  have:=Rat.natCast_inj.1 this
  omega
 have e:x=mkRat z S:=by
  rw[Rat.mkRat_eq_div,<-hz,Rat.div_def,Rat.mul_assoc,Rat.mul_inv_cancel _ h0,Rat.mul_one]
 rw[e];exact Bt.mk hk Cd
theorem Qg {k l n:Nat} {a:List (List Rat)} {v:List Rat} (ha : ∀ r∈a,∀ x∈r,Wh k x) (hl : ∀ r∈a,r.length=n) (hv : ∀ x∈v,Wh l x) : ∀ x∈DB a v,Wh (k+l+n) x:=λ x hx=>by
 obtain ⟨r,hr,rfl⟩:=List.mem_map.1 hx;have:=Wh.dot (ha r hr) hv
 rwa [hl r hr]at this
theorem ZX {n k:Nat} {a:List (List Rat)} (hs:Sq n a) (hb:Ms k a) : ∃ S:Nat,HH a.flatten=(S:Rat)/\0<S/\S<=2^(n*n*k) /\ ∀ r∈B9 (S:Rat) a,∀ x∈r,Wh (k+n*n*k) x:=by
 have hl:a.flatten.length=n*n:=by
  have : ∀ (a:List (List Rat)),(∀ r∈a,r.length=n)->a.flatten.length=a.length*n:=by
   intro a;induction a with
   | nil=>intro _;simp
   | cons r a ih =>
    intro h;rw[List.flatten_cons,List.length_append,ih λ x hx=>h x (List.mem_cons_of_mem _ hx),h r List.mem_cons_self,List.length_cons,Nat.succ_mul,Nat.add_comm]
  rw[this a hs.r,hs.l]
 have ql:Bs k a.flatten:=λ x hx=>by
  obtain ⟨r,hr,hx⟩:=List.mem_flatten.1 hx;exact hb r hr x hx
 obtain ⟨S,e,h1,h2,h3⟩:=nE ql;rw[hl]at h2;refine ⟨S,e,h1,h2,λ r hr x hx => ?_⟩;obtain ⟨s,hs,rfl⟩:=List.mem_map.1 hr;obtain ⟨y,hy,rfl⟩:=List.mem_map.1 hx;obtain ⟨z,hz⟩:=h3 y (List.mem_flatten.2 ⟨s,hs,hy⟩);exact Qh (hb s hs y hy) hz h2
theorem Y7 {n k:Nat} {b:List Rat} (hl:b.length=n) (hb:Bs k b) : ∃ S:Nat,HH b=(S:Rat)/\0<S/\S<=2^(n*k) /\ ∀ x∈b.map (· * (S:Rat)),Wh (k+n*k) x:=by
 obtain ⟨S,e,h1,h2,h3⟩:=nE hb;rw[hl]at h2;refine ⟨S,e,h1,h2,λ x hx => ?_⟩;obtain ⟨y,hy,rfl⟩:=List.mem_map.1 hx;obtain ⟨z,hz⟩:=h3 y hy;exact Qh (hb y hy) hz h2
def DD (a:List (List Rat)) (b:List Rat) (D E:Rat) (j:Nat):List Rat:=(C6 a b j).map (· * (E*D^j))
theorem gC (a:List (List Rat)) (b:List Rat) (D E:Rat):DD a b D E 0=b.map (· * E):=by
 rw[DD,Rat.pow_zero,Rat.mul_one];rfl
theorem gB (a:List (List Rat)) (b:List Rat) (D E:Rat) (j:Nat):DD a b D E (j+1)=DB (B9 D a) (DD a b D E j):=by
 rw[DD,DD,Ajg,C6];refine List.map_congr_left λ x _ => ?_
 rw[Rat.pow_succ];grind
def VT (n k j:Nat):Nat:=(k+n*k)+j*((k+n*n*k)+n)
theorem oS {n k:Nat} {a:List (List Rat)} {b:List Rat} {D E:Nat} (hs:Sq n a) (hA : ∀ r∈B9 (D:Rat) a,∀ x∈r,Wh (k+n*n*k) x) (hB : ∀ x∈b.map (· * (E:Rat)),Wh (k+n*k) x) : ∀ j,∀ x∈DD a b D E j,Wh (VT n k j) x
 | 0=>by
  rw[gC];intro x hx;exact (hB x hx).le (by rw[VT];omega)
 | j+1=>by
  rw[gB];intro x hx;refine (Qg hA (eU _ hs.r) (oS hs hA hB j) x hx).le ?_;simp only[VT,Nat.succ_mul];omega
theorem AjK (D j:Nat):(D:Rat)^j=((D^j:Nat):Rat):=by
 induction j with
 | zero=>rfl
 | succ j ih=>rw[Rat.pow_succ,ih,Nat.pow_succ,Rat.natCast_mul]
theorem Qc {n k:Nat} {a:List (List Rat)} {b:List Rat} (hs:Sq n a) (hb:b.length=n) (ha:Ms k a) (vu:Bs k b) (j:Nat):Bs (VT n k j) (C6 a b j):=by
 obtain ⟨D,_,d1,d2,d3⟩:=ZX hs ha;obtain ⟨E,_,e1,e2,e3⟩:=Y7 hb vu;have hw:=oS hs d3 e3 j;intro x hx;refine qM (S:=E*D^j) (Nat.mul_pos e1 (Nat.pow_pos d1)) ?_ ?_
 ·have h1:D^j<=2^(n*n*k*j):=by rw[Nat.pow_mul];exact Nat.pow_le_pow_left d2 j
  refine Nat.le_trans (Nat.mul_le_mul e2 h1) ?_;rw[<-Nat.pow_add];refine Nat.pow_le_pow_right (by omega) ?_;rw[VT,Nat.mul_add,Nat.mul_add,Nat.mul_comm (n*n*k) j];omega
 ·refine hw _ (List.mem_map.2 ⟨x,hx,?_⟩)
  rw[AjK,Rat.natCast_mul]
def HA (n:Nat) (a:List (List Rat)) (i:Nat):Prop:=DJ (B2 n a i)=true /\ ∀ j,j<i->DJ (B2 n a j)=false
theorem HA.uniq {n i j:Nat} {a:List (List Rat)} (hi:HA n a i) (hj:HA n a j):i=j:=by
 rcases Nat.lt_trichotomy i j with h|h|h
 ·have:=hj.2 i h
  rw[hi.1]at this;cases this
 ·exact h
 ·have:=hi.2 j h
  rw[hj.1]at this;cases this
def FR (k:Nat):Nat->Nat
 | 0=>17*k
 | i+1=>FR k i+FR k i+4
theorem Oz {k:Nat} : ∀ i,i<=7->FR k i<=2176*k+508:=by
 intro i hi;have h1:FR k 0=17*k:=rfl;have e1:FR k 1=FR k 0+FR k 0+4:=rfl;have e2:FR k 2=FR k 1+FR k 1+4:=rfl;have e3:FR k 3=FR k 2+FR k 2+4:=rfl;have e4:FR k 4=FR k 3+FR k 3+4:=rfl;have e5:FR k 5=FR k 4+FR k 4+4:=rfl;have e6:FR k 6=FR k 5+FR k 5+4:=rfl;have e7:FR k 7=FR k 6+FR k 6+4:=rfl;obtain rfl|rfl|rfl|rfl|rfl|rfl|rfl|rfl:i=0\/i=1\/i=2\/i=3\/i=4\/i=5\/i=6\/i=7:=by omega
 all_goals omega
theorem AlF {k l n:Nat} {a b:List (List Rat)} (ha : ∀ r∈a,∀ x∈r,Wh k x) (hl : ∀ r∈a,r.length=n) (hb : ∀ r∈b,∀ x∈r,Wh l x) : ∀ r∈HF a b n,∀ x∈r,Wh (k+l+n) x:=λ r hr x hx=>by
 obtain ⟨s,hs,rfl⟩:=List.mem_map.1 hr;obtain ⟨j,_,rfl⟩:=List.mem_map.1 hx;have hc : ∀ x∈C9 b j,Wh l x:=λ x hx=>by
  obtain ⟨t,ht,rfl⟩:=List.mem_map.1 hx;rw[List.getD_eq_getElem?_getD];cases e:t[j]? with
  | none=>exact Wh.zero l
  | some y=>exact hb t ht y (zM e)
 have:=Wh.dot (ha s hs) hc
 rwa [hl s hs]at this
theorem fJ {n k:Nat} {a:List (List Rat)} {D:Nat} (hs:Sq n a) (hn:n<=4) (hA : ∀ r∈B9 (D:Rat) a,∀ x∈r,Wh (k+n*n*k) x) : ∀ i,∀ r∈B9 (DU (D:Rat) i) (B2 n a i),∀ x∈r,Wh (FR k i) x
 | 0=>λ r hr x hx=>(hA r hr x hx).le (by
   show k+n*n*k<=17*k;have:n*n<=4*4:=Nat.mul_le_mul hn hn
   have:=zR k this
   omega)
 | i+1=>λ r hr x hx=>by
  rw[<-Mi]at hr;exact (AlF (fJ hs hn hA i) (eU _ (TT hs i).r) (fJ hs hn hA i) r hr x hx).le (by simp only[FR];omega)
theorem jE {D M:Nat} (hD:D<=2^M) : ∀ i,Wh (2^i*M) (DU (D:Rat) i)
 | 0=>⟨(D:Int),by rw[DU,Rat.intCast_natCast],by rw[Nat.pow_zero,Nat.one_mul];simpa using hD⟩
 | i+1=>((jE hD i).mul (jE hD i)).le (by rw[Nat.pow_succ,Nat.mul_two,Nat.add_mul];exact Nat.le_refl _)
theorem sH (D:Nat) : ∀ i,DU (D:Rat) i=((D^2^i:Nat):Rat)
 | 0=>by simp [DU]
 | i+1=>by
  rw[DU,sH D i,<-Rat.natCast_mul,<-Nat.pow_add,Nat.pow_succ,Nat.mul_two]
theorem AeC {n i:Nat} {a:List (List Rat)} {D:Rat} (hD:0<D):(∀ r∈B9 (DU D i) (B2 n a i),BF r+BF r<=DU D i)↔DJ (B2 n a i)=true:=by
 have hp:=jD hD i;rw[AeA];constructor
 ·intro h r hr
  have:=h _ (List.mem_map.2 ⟨r,hr,rfl⟩)
  rw[eT (by grind)]at this;exact (wZ hp).1 this
 ·intro h r hr
  obtain ⟨s,hs,rfl⟩:=List.mem_map.1 hr;rw[eT (by grind)];exact (wZ hp).2 (h s hs)
theorem RJ {k:Nat} : ∀ {l:List Rat},Bs k l->Bt (l.length*(k+1)) (BF l)
 | [],_=>Bt.zero _
 | x::l,h=>by
  have h1:=RJ (l:=l) λ y hy=>h y (List.mem_cons_of_mem _ hy)
  have h2:Bt k (A4 x):=by
   unfold A4;split
   ·exact (h x List.mem_cons_self).Ew
   ·exact h x List.mem_cons_self
  refine (h2.add h1).le ?_;rw[List.length_cons,Nat.succ_mul];omega
theorem HU {k:Nat} {x:Rat} (h:Bt k x):Bt k (A4 x):=by
 unfold A4;split
 ·exact h.Ew
 ·exact h
theorem AhF {k:Nat} {m x:Rat} (hm:Bt k m) (hx:Bt k x):Bt k (HW m x):=by
 unfold HW;split
 ·exact HU hx
 ·exact hm
theorem Q9 {k:Nat} {l:List Rat} (h:Bs k l):Bt k (CG l):=by
 have : ∀ (l:List Rat) (m:Rat),Bt k m->Bs k l->Bt k (l.foldl HW m):=by
  intro l;induction l with
  | nil=>intro m hm _;exact hm
  | cons x l ih =>
   intro m hm h;exact ih _ (AhF hm (h x List.mem_cons_self)) λ y hy=>h y (List.mem_cons_of_mem _ hy)
 exact this l 0 (Bt.zero k) h
theorem mP (D:Rat) (a:Nat) : ∀ b:Nat,D^(a+b)=D^a*D^b
 | 0=>by rw[Nat.add_zero,Rat.pow_zero,Rat.mul_one]
 | b+1=>by rw[<-Nat.add_assoc,Rat.pow_succ,mP D a b,Rat.pow_succ,Rat.mul_assoc]
def ET (D:Rat) (f:Nat->Rat):Nat->Rat
 | 0=>0
 | m+1=>ET D f m*D+f m
theorem lC {D c:Rat} {f F:Nat->Rat} (h : ∀ j,f j=F j*(c*D^j)) : ∀ m,ET D f m*D=c*D^m*B4 F m
 | 0=>by simp only[ET,B4];grind
 | m+1=>by
  have:=lC h m
  rw[ET,Rat.add_mul,this,h m,Rat.pow_succ,B4];grind
theorem UY {D:Rat} {f:Nat->Rat} {d k:Nat} (hD:Bt d D) : ∀ m,(∀ j,j<m->Bt k (f j))->Bt (m*(d+k+1)) (ET D f m)
 | 0,_=>Bt.zero _
 | m+1,h=>by
  have h1:=UY hD m λ j hj=>h j (by omega)
  refine ((h1.mul hD).add (h m (by omega))).le ?_;rw[Nat.succ_mul];omega
theorem AlO {a:List (List Rat)} {b:List Rat} {D E:Rat} (hD:0<D) (hE:0<E) (j:Nat):CG (DD a b D E j)=GE a b j*(E*D^j):=AhJ (Rat.mul_pos hE (by
 induction j with
 | zero=>rw[Rat.pow_zero];decide
 | succ j ih=>rw[Rat.pow_succ];exact Rat.mul_pos ih hD)) _
theorem Re {S:FE} {D E O:Rat} {p:Nat} (hp:1<=p) (hD:0<D) (hE:0<E) (hO:0<O) :
  (ET D (λ j=>A4 (A3 (S.c.map (· * O)) (DD S.a S.b D E j))) (p+p)+BF (S.c.map (· * O))*ET D (λ j=>CG (DD S.a S.b D E (p+j))) p)/(D^(p+p-1)*(E*O))=B4 (GV S.a S.b S.c) (p+p)+BF S.c*B4 (λ j=>GE S.a S.b (p+j)) p:=by
 have zh : ∀ j:Nat,0<D^j:=λ j=>by
  induction j with
  | zero=>rw[Rat.pow_zero];decide
  | succ j ih=>rw[Rat.pow_succ];exact Rat.mul_pos ih hD
 have h1:=lC (D:=D) (c:=O*E) (f:=λ j=>A4 (A3 (S.c.map (· * O)) (DD S.a S.b D E j))) (F:=GV S.a S.b S.c) (λ j=>by
  show A4 (A3 (S.c.map (· * O)) (DD S.a S.b D E j))=_;rw[DD,jF,UC,GV,aX (show 0<=O*(E*D^j) from by have:=Rat.mul_pos hO (Rat.mul_pos hE (zh j));grind)];grind) (p+p)
 have h2:=lC (D:=D) (c:=E*D^p) (f:=λ j=>CG (DD S.a S.b D E (p+j))) (F:=λ j=>GE S.a S.b (p+j)) (λ j=>by
  show CG (DD S.a S.b D E (p+j))=_;rw[AlO hD hE,mP];grind) p
 have h3:BF (S.c.map (· * O))=BF S.c*O:=eT (by grind) _;generalize ET D (λ j=>A4 (A3 (S.c.map (· * O)) (DD S.a S.b D E j))) (p+p)=u at *;generalize ET D (λ j=>CG (DD S.a S.b D E (p+j))) p=t at *;generalize B4 (GV S.a S.b S.c) (p+p)=F at *;generalize B4 (λ j=>GE S.a S.b (p+j)) p=G at *;rw[h3];have h4:D^(p+p)=D^(p+p-1)*D:=by rw[<-Rat.pow_succ];congr 1;omega
 have h5:D^(p+p)=D^p*D^p:=mP _ _ _;have hq:=zh (p+p-1);have hz:=zh p;generalize D^(p+p-1)=L at *;generalize D^(p+p)=M at *;generalize D^p=P at *;have l9:L*(E*O)≠0:=by
  have:=Rat.mul_pos hq (Rat.mul_pos hE hO)
  grind
 have key:(u+BF S.c*O*t)*D=(F+BF S.c*G)*(L*(E*O))*D:=by
  have e1:u*D=O*E*(L*D)*F:=by rw[h1,h4]
  have e2:t*D=E*(L*D)*G:=by rw[h2,<-h4,h5];grind
  have:(u+BF S.c*O*t)*D=u*D+BF S.c*O*(t*D):=by grind
  rw[this,e1,e2];grind
 have Bv:D≠0:=by grind
 have:=Aje Bv key
 rw[this,Rat.div_def,Rat.mul_assoc,Rat.mul_inv_cancel _ l9,Rat.mul_one]
abbrev tPl:Ty := .cons tI (.cons tI (.cons tI (.cons (.sl tI) (.cons (.sl tI) .nil))))
theorem Aib {cs:List AV} (h:HT tPl cs) : ∃ (kd dk ck:Int) (b a:List Int),cs=[.int .i64 kd,.int .i64 dk,.int .i64 ck,.sl true (b.map BW),.sl true (a.map BW)]/\DT kd/\DT dk/\DT ck/\b.length<9223372036854775808/\a.length<9223372036854775808 /\ ∀ v∈a,DT v:=by
 obtain ⟨_,_,rfl,h1,_,_,rfl,h2,_,_,rfl,h3,_,_,rfl,h4,_,_,rfl,h5,rfl⟩:=h;obtain ⟨kd,rfl,i1⟩:=cU h1;obtain ⟨dk,rfl,i2⟩:=cU h2;obtain ⟨ck,rfl,i3⟩:=cU h3;obtain ⟨b,rfl,l4,_⟩:=kZ h4;obtain ⟨a,rfl,l5,i5⟩:=kZ h5;exact ⟨kd,dk,ck,b,a,rfl,i1,i2,i3,l4,l5,i5⟩
end Go.c6
namespace Go.c6
open F
attribute [local irreducible] AA AF AX AC CN AR BA A6 BV BH CM EI BO AY B0 CJ AB A5 AH pw CQ CE C8 EA DP BT CP BU C7
variable {L:Lib}
set_option maxHeartbeats 8000000
abbrev eM (m:List (List Rat)):List (List AV):=m.map λ r=>[AV.sl false (r.map eQ)]
theorem iJ (m:List (List Rat)):EV (eM m):=S7 (λ r=>by simp only[BS,AZ,and_true,true_and];exact KS r) m
theorem qY (m:List (List Rat)):AZ (.sl false (eM m)):=by
 simp only[AZ,true_and];exact iJ m
theorem VM {b:Int} (hb:0<=b) (v:Int) : -b<=LW b v/\LW b v<=b:=by
 have:=SU (v:=IntKind.i64.wrap (v+b)) (m:=2*b+1) (by omega)
 unfold LW;omega
theorem qG {c:Wd} (hc:WV c) (l:List Int) (n:Nat) : ∀ v∈HJ (pw (c.b-1)-1) l n,FT c v/\FT c (-v):=by
 intro v hv;obtain ⟨h1,h2,h3,h4⟩:=MW hc;simp only[HJ,List.mem_map]at hv;obtain ⟨i,_,rfl⟩:=hv;have:=VM (b:=pw (c.b-1)-1) (by omega) (FL l i)
 exact ⟨⟨hc,by omega,by omega⟩,⟨hc,by omega,by omega⟩⟩
theorem aZ (b:Int) (l:List Int) (n:Nat):(HJ b l n).length=n:=by simp [HJ]
theorem rJ (k:Int):(CB k).f<=(CB k).b-2:=by
 have hr:=SU (v:=k) (m:=1099511627776) (by omega);have h1:0<=DN k 1099511627776%(9-6+1):=Int.emod_nonneg _ (by omega);simp only[CB,SV];generalize DN k 1099511627776/(9-6+1)=d;omega
def W3 (c:Wd) (l:List Int):List Int :=
 if DN (FL l 0) 3=0 then [] else
 if DN (FL l 0) 3=1 then [LW (pw c.f*3/4) (FL l 1)] else
 [LW ((pw c.f+LW (pw c.f/2) (FL l 1))/2) (FL l 2),LW (pw c.f/2) (FL l 1)]
theorem Yk (b x:Int):HJ b [x] 1=[LW b x]:=rfl
theorem Zi {l:List Int} (h : ∀ v∈l,DT v) (i:Int):DT (FL l i):=by
 unfold FL;split
 ·rw[List.getD_eq_getElem?_getD]
  cases he:l[i.toNat]? with
  | none=>exact ⟨by show _<=(0:Int);decide,by show (0:Int)<=_;decide⟩
  | some v=>exact h v (zM he)
 ·exact ⟨by decide,by decide⟩
theorem Aho (W:q6 L) (N:z8 L) (c:Wd) (hc:WV c) (l:List Int) (q:Bool) (hl : ∀ v∈l,DT v):Ev L 347 [.agg (F3 c),.sl q (l.map BW)] (.sl false ((W3 c l).map BW)):=by
 have hp:=E0 c.f;have zf:pw c.f<=8388608:=by
  have s9:=hc;unfold WV at s9;have:=K0 (n:=c.f) (m:=23) (by omega)
  have rn:pw 23=8388608:=by unfold pw;rfl
  omega
 have hA:=vN W l;have hW:=WF W (FL l 0) 3 (Zi hl 0) (by omega);have hr:=SU (v:=FL l 0) (m:=3) (by omega);have hB:=λ(b:Int) (x:Int) (hb:0<=b/\b<=1000000000000)=>YS W b hb [x] true 1 (by omega)
 simp only[Yk,List.map_cons,List.map_nil]at hB;have s9:=hc;unfold WV at s9;refine Ev.x N.QJ rfl rfl ?_;have hz:=VM (b:=pw c.f/2) (by omega) (FL l 1);have b1:=hB (pw c.f*3/4) (FL l 1) (by omega);have b2:=hB (pw c.f/2) (FL l 1) (by omega);have b3:=hB ((pw c.f+LW (pw c.f/2) (FL l 1))/2) (FL l 2) (by omega);unfold W3;by_cases h0:DN (FL l 0) 3=0
 ·rw[if_pos h0]
  (repeat' ((first|(apply AG<;>intro hc<;>try omega)|(refine FX ?_ (λ_ _ => ?_);omega)|(apply B3;omega)|apply AE|refine AD (hA _ _) ?_|refine AD (hW) ?_)<;>conv=>whnf))
  exact AW rfl (by simp [AZ,BS,EV])
 rw[if_neg h0];by_cases h1:DN (FL l 0) 3=1
 ·rw[if_pos h1]
  (repeat' ((first|(apply AG<;>intro hc<;>try omega)|(apply FW;omega)|(refine FX ?_ (λ_ _ => ?_);omega)|(refine LI ?_ ?_ (λ_ => ?_) (λ_ _ => ?_);omega;omega;all_goals try omega)|(apply B3;omega)|refine GA rfl ?_|apply AE|refine AD (hA _ _) ?_|refine AD (hW) ?_|refine AD (b1) ?_)<;>conv=>whnf))
  exact AW rfl (by simp [AZ,BS,EV])
 rw[if_neg h1];generalize LW (pw c.f/2) (FL l 1)=z at *;(repeat' ((first|(apply AG<;>intro hc<;>try omega)|(refine FX ?_ (λ_ _ => ?_);omega)|(refine LI ?_ ?_ (λ_ => ?_) (λ_ _ => ?_);omega;omega;all_goals try omega)|(apply B3;omega)|refine GA rfl ?_|apply AE|refine AD (hA _ _) ?_|refine AD (hW) ?_|refine AD (b2) ?_)<;>conv=>whnf))
 refine A9 (l:=[_]) (enc:=BW) (a:=0) rfl (by decide) rfl ?_;(conv=>whnf)
 (repeat' ((first|(apply AQ;omega)|(refine LI ?_ ?_ (λ_ => ?_) (λ_ _ => ?_);omega;omega;all_goals try omega)|refine GA rfl ?_|refine AD (hA _ _) ?_|refine AD (b3) ?_)<;>conv=>whnf))
 refine A9 (l:=[_]) (enc:=BW) (a:=0) rfl (by decide) rfl ?_;(conv=>whnf)
 (repeat' (refine J9 rfl rfl ?_<;>conv=>whnf))
 exact AW rfl (by simp [AZ,BS,EV])
end Go.c6

namespace Go.c6
variable {L:Lib}
end Go.c6

namespace Go.c6
open F
attribute [local irreducible] AA AF AX AC CN AR BA A6 BV BH CM EI BO AY B0 CJ AB A5 AH pw CQ CE C8 EA DP BT CP BU C7
variable {L:Lib}
set_option maxHeartbeats 16000000
set_option maxRecDepth 8000
abbrev IB (q:Bool) (m:List (List Rat)):List (List AV):=m.map λ r=>[AV.sl q (r.map eQ)]
def cw (n:Nat) (v:List Rat):List (Option Rat):=List.replicate (n-v.length) none++v.map some
theorem Ae2:dg 1=[1]:=by rw[KE (by decide)];simp [FZ]
theorem AjP (x:Rat):qv false (dg x.num.natAbs) (dg x.den)=A4 x:=by
 unfold A4;split
 ·rename_i h
  have:=F8 (-x)
  rw[Rat.neg_num,Int.natAbs_neg,Rat.neg_den,show decide (-x.num<0)=false from decide_eq_false (by omega)]at this;exact this
 ·rename_i h
  have:=F8 x
  rw[show decide (x.num<0)=false from decide_eq_false h]at this;exact this
theorem YK (N:y6 L) {x:Rat} {k:Nat} (hx:Bt k x) (hk:k<2199023255552):Ev L 256 [.agg (eQ x)] (.agg (eQ (A4 x))):=by
 have hs:=hx.sm hk;have hT:=kC N.toa7 false false false (dg x.num.natAbs) (dg x.den) (hs.1.le (by omega)) (hs.2.le (by omega));rw[AjP]at hT;refine Ev.x N.OG rfl rfl ?_;(repeat' ((first|apply AE|refine AD (hT) ?_)<;>conv=>whnf))
 exact AW rfl (C3 _)
theorem AfU (z:Int):eQ (z:Rat)=[.bool (decide (z<0)),.sl false ((dg z.natAbs).map AL),.sl false [[.int .u32 1]]]:=by
 simp only[eQ,rQ,Rat.num_intCast,Rat.den_intCast,Ae2];rfl
theorem Ajk {T:List (List Rat)} {n i:Nat} (hl:T.length=n) (hi:i<n):(mz T n i)[i]? = some none:=by
 have du:(EL 3 eQ (T.take i)).length=i:=by simp only[EL,List.length_map,List.length_take];omega
 have:=wI (z:=(none:Option (Nat × List (List AV)))) (l:=EL 3 eQ (T.take i)) (m:=n) (by omega)
 rw[du]at this;exact this
theorem iV {k:Nat} {x:Rat} (h:Bt k x):Bt k ((x.den:Nat):Rat):=by
 refine ⟨?_,?_⟩
 ·rw[Rat.num_natCast,Int.natAbs_natCast];exact h.2
 ·rw[Rat.den_natCast];exact Nat.one_le_two_pow
theorem AeY (x:Rat):((x.den:Nat):Rat)≠0:=λ e=>by
 have:((x.den:Nat):Rat)=((0:Nat):Rat):=e
 have:=Rat.natCast_inj.1 this
 have:=x.den_pos
 omega
theorem uM (N:m4 L) {x:Rat} {k:Nat} (hx:Bt k x) (hk:k<2199023255552):Ev L 294 [.agg (eQ x)] (.agg (eQ ((x.den:Nat):Rat))):=by
 have hT:=vL N.toa7 hx hk;have n6:=C3 ((x.den:Nat):Rat);have e:eQ ((x.den:Nat):Rat)=[.bool false,.sl false ((dg x.den).map AL),.sl false [[.int .u32 1]]]:=by
  rw[<-Rat.intCast_natCast,AfU,Int.natAbs_natCast,show decide (((x.den:Nat):Int)<0)=false by simp]
 rw[e]at n6 ⊢;refine Ev.x N.N0 rfl rfl ?_;(repeat' ((first|refine GA rfl ?_|apply AE|refine AD (hT) ?_)<;>conv=>whnf))
 exact AW rfl n6
theorem YP (N:m4 L) (q q':Bool) (ls:List (List Rat)) (k:Nat) (hb:Ms k ls) (hl:ls.flatten.length<=64) (rh:ls.length<=1000) (hk:k<=1000000):Ev L 295 [.sl q (IB q' ls)] (.agg (eQ (HH ls.flatten))):=by
 have hO:=HN N.toa7 1 (by omega);rw[show ((1:Int):Rat)=1 from rfl]at hO;have key : ∀ (i j:Nat) (r:List Rat) (x:Rat),ls[i]? = some r->r[j]? = some x -> ∃ S:Nat,HH ((ls.take i).flatten++r.take j)=(S:Rat)/\Bt (64*k) (S:Rat)/\HH ((ls.take i).flatten++r.take (j+1))=(S:Rat)*(((S:Rat)/((x.den:Nat):Rat)).den:Nat):=by
  intro i j r x hr hx;have di:=(zS hx).1;have hlen:((ls.take i).flatten++r.take j).length<=64:=by
   have e:ls.flatten=(ls.take i).flatten++(r++(ls.drop (i+1)).flatten):=by
    have h1:=(zS hr);obtain ⟨h1,h2⟩:=h1;conv=>lhs;rw[<-List.take_append_drop i ls,List.flatten_append,List.drop_eq_getElem_cons h1,h2,List.flatten_cons]
   rw[e,List.length_append,List.length_append]at hl;rw[List.length_append,List.length_take];omega
  have Aj:Bs k ((ls.take i).flatten++r.take j):=λ y hy=>by
   rcases List.mem_append.1 hy with hy|hy
   ·obtain ⟨s,hs,hy⟩:=List.mem_flatten.1 hy
    exact hb s (List.mem_of_mem_take hs) y hy
   ·exact hb r (zM hr) y (List.mem_of_mem_take hy)
  obtain ⟨S,e,h1,h2,_⟩:=nE Aj;refine ⟨S,e,⟨?_,?_⟩,?_⟩
  ·rw[Rat.num_natCast,Int.natAbs_natCast]
   exact Nat.le_trans h2 (Nat.pow_le_pow_right (by omega) (zR k hlen))
  ·rw[Rat.den_natCast];exact Nat.one_le_two_pow
  ·rw[List.take_add_one,hx,Option.toList_some,<-List.append_assoc,Akw,e,ZW,AeZ]
 refine Ev.x N.NY rfl rfl ?_;(repeat' ((first|apply AP|apply AE|refine AD (hO) ?_)<;>conv=>whnf))
 refine D8 (λ i=>ls.length-i) (λ(i:Nat)=>i<=ls.length) (λ i=>[(13,.int .i64 i)]) (λ i=>[(3,3,.bx (eQ (HH (ls.take i).flatten)))]) [] [] 0 (by rw[show HH (ls.take 0).flatten=1 from rfl];exact (by (conv=>whnf);exact ⟨rfl,rfl,rfl⟩)) (by omega) ?_;intro i p1 ih;by_cases hi:i<ls.length
 ·obtain ⟨r,hr⟩ : ∃ r,ls[i]? = some r:=⟨_,zE hi⟩
  have ot:ls[(i:Int).toNat]? = some r:=hr;have mb:=hb r (zM hr);have cg:r.length<=64:=by
   have e:ls.flatten=(ls.take i).flatten++(r++(ls.drop (i+1)).flatten):=by
    obtain ⟨h1,h2⟩:=zS hr;conv=>lhs;rw[<-List.take_append_drop i ls,List.flatten_append,List.drop_eq_getElem_cons h1,h2,List.flatten_cons]
   rw[e,List.length_append,List.length_append]at hl;omega
  have fq:(ls.take (i+1)).flatten=(ls.take i).flatten++r:=by
   rw[List.take_add_one,hr,List.flatten_append];simp
  (repeat' ((first|(apply AG<;>intro hc<;>try omega)|apply AP|(refine A9 (by assumption) ?_ rfl ?_;omega)|apply AE)<;>conv=>whnf))
  refine D8 (λ j=>r.length-j) (λ(j:Nat)=>j<=r.length) (λ j=>[(19,.int .i64 j)]) (λ j=>[(3,3,.bx (eQ (HH ((ls.take i).flatten++r.take j))))]) [] [] 0 (by rw[List.take_zero,List.append_nil];exact (by (conv=>whnf);exact ⟨rfl,rfl,rfl⟩)) (by omega) ?_;intro j r1 jh;by_cases hj:j<r.length
  ·obtain ⟨x,hx⟩ : ∃ x,r[j]? = some x:=⟨_,zE hj⟩
   have lf:r[(j:Int).toNat]? = some x:=hx;obtain ⟨S,e,hS,e2⟩:=key i j r x hr hx;have Gz:=mb.at hx;have og:=uM N Gz (by omega);have hq:=hS.od (iV Gz);have Hu:=cH N.toa7 hS (iV Gz) (by omega) (by omega) (AeY x);have oh:=uM N hq (by omega);have hM:=I6 N.toa7 hS (iV hq) (by omega) (by omega);rw[<-e2]at hM;rw[e];generalize (S:Rat)/((x.den:Nat):Rat)=y at *;generalize ((x.den:Nat):Rat)=d at *;generalize (S:Rat)=s at *;generalize ((y.den:Nat):Rat)=d2 at *;(repeat' ((first|(apply AG<;>intro hc<;>try omega)|(apply AQ;omega)|(refine A9 (by assumption) ?_ rfl ?_;omega)|apply AE|refine AD (og) ?_|refine AD (Hu) ?_|refine AD (oh) ?_|refine AD (hM) ?_)<;>conv=>whnf))
   exact BB [] (jh (j+1) (by omega) (by omega))
  obtain rfl:j=r.length:=by omega
  clear jh;rw[zT (Nat.le_refl _),<-fq];(repeat' ((first|(apply AG<;>intro hc<;>try omega)|(apply AQ;omega)|apply AE)<;>conv=>whnf))
  exact BB [] (ih (i+1) (by omega) (by omega))
 obtain rfl:i=ls.length:=by omega
 clear ih;rw[zT (Nat.le_refl _)];(repeat' ((first|(apply AG<;>intro hc<;>try omega)|apply AE)<;>conv=>whnf))
 exact AW rfl (C3 _)
theorem YQ (N:m4 L) (q:Bool) (v:List Rat) (c:Rat) (k l:Nat) (hv:Bs k v) (hc:Bt l c) (hk:k<1099511627776) (hl:l<1099511627776) (hn:v.length<=1000000):Ev L 296 [.sl q (v.map eQ),.agg (eQ c)] (.sl false ((v.map (· * c)).map eQ)):=by
 refine Ev.x N.OA rfl rfl ?_;(repeat' ((first|apply AP|apply AE)<;>conv=>whnf))
 refine D9 (enc:=eO) none v.length rfl rfl (by omega) ?_;(conv=>whnf)
 (repeat' (apply AP<;>conv=>whnf))
 refine D8 (λ i=>v.length-i) (λ(i:Nat)=>i<=v.length) (λ i=>[(12,.int .i64 i)]) (λ i=>[(9,9,.rw 3 ((DX ((v.map (· * c)).take i) v.length).map eO))]) [] [] 0 (by first|exact (by (conv=>whnf);exact ⟨rfl,rfl,rfl⟩)|(rw[List.take_zero,<-WK];exact (by (conv=>whnf);exact ⟨rfl,rfl,rfl⟩))) (by omega) ?_;intro i p1 ih;have fk:((v.map (· * c)).take i).length=i:=by rw[List.length_take,List.length_map];omega
 have Gm:=SA (l:=(v.map (· * c)).take i) (m:=v.length) (by omega);by_cases hi:i<v.length
 ·obtain ⟨x,hx⟩ : ∃ x,v[i]? = some x:=⟨_,zE hi⟩
  have lf:v[(i:Int).toNat]? = some x:=hx;have hy:(v.map (· * c))[i]? = some (x*c):=by rw[List.getElem?_map,hx];rfl
  have hs:=UU (l:=(v.map (· * c)).take i) (m:=v.length) (x:=x*c) (by omega);rw[fk,<-I0 hy]at hs;have hM:=I6 N.toa7 (hv.at hx) hc (by omega) (by omega);generalize DX ((v.map (· * c)).take i) v.length=F0 at *;generalize x*c=y at *;(repeat' ((first|(apply AG<;>intro hc<;>try omega)|(apply A2;omega)|(refine A9 (by assumption) ?_ rfl ?_;omega)|apply AE|refine AD (hM) ?_)<;>conv=>whnf))
  refine KB (enc:=eO) (some y) rfl (λ e=>by cases e<;>rfl) (by omega) ?_;(conv=>whnf)
  rw[hs];(repeat' ((first|(apply AQ;omega)|fail)<;>conv=>whnf))
  exact BB [] (ih (i+1) (by omega) (by omega))
 obtain rfl:i=v.length:=by omega
 clear ih;have pg:(v.map (· * c)).length=v.length:=List.length_map _;rw[zT (by omega),WJ pg];(repeat' ((first|(apply AG<;>intro hc<;>try omega)|(refine CZ (λ_=>rfl) rfl ?_ ?_;(first|rfl|simp))|apply AE)<;>conv=>whnf))
 exact AW rfl (by simp only[AZ,true_and];exact KS _)
abbrev JP (q:Bool) (x:Rat):List AV:=rQ q q (decide (x.num<0)) (dg x.num.natAbs) (dg x.den)
theorem Ahk (N:a7 L) (q:Bool) {x:Rat} {k:Nat} (hx:Bt k x) (hk:k<2199023255552):Ev L 97 [.agg (JP q x)] (.int .i64 (o9 x.num)):=by
 have hs:=hx.sm hk;have:=vF N (decide (x.num<0)) q q (dg x.num.natAbs) (dg x.den) (hs.1.le (by omega)) (hs.2.le (by omega))
 rwa [F8]at this
theorem uG (N:a7 L) (q:Bool) {x y:Rat} {k l:Nat} (hx:Bt k x) (hy:Bt l y) (hk:k<2199023255552) (hl:l<2199023255552):Ev L 99 [.agg (eQ x),.agg (JP q y)] (.agg (eQ (x*y))):=by
 have h1:=hx.sm hk;have h2:=hy.sm hl;have:=vE N 68719476736 (by omega) (decide (x.num<0)) (decide (y.num<0)) false false q q (dg x.num.natAbs) (dg x.den) (dg y.num.natAbs) (dg y.den) h1.1 h1.2 h2.1 h2.2
 rwa [F8,F8]at this
theorem uO (N:m4 L) (q1 q2 qb:Bool) (a b:List Rat) (k l:Nat) (hl:a.length=b.length) (ha:Bs k a) (hb:Bs l b) (hn:a.length<=64) (hk:k<=1000000000) (iv:l<=1000000000):Ev L 297 [.sl q1 (a.map eQ),.sl q2 (b.map (JP qb))] (.agg (eQ (A3 a b))):=by
 have hO:=HN N.toa7 0 (by omega);rw[show ((0:Int):Rat)=0 from rfl]at hO;refine Ev.x N.N1 rfl rfl ?_;(repeat' ((first|apply AP|apply AE|refine AD (hO) ?_)<;>conv=>whnf))
 refine D8 (λ i=>a.length-i) (λ(i:Nat)=>i<=a.length) (λ i=>[(10,.int .i64 i)]) (λ i=>[(5,5,.bx (eQ (A3 (a.take i) (b.take i))))]) [] [] 0 (by rw[show A3 (a.take 0) (b.take 0)=0 from rfl];exact (by (conv=>whnf);exact ⟨rfl,rfl,rfl⟩)) (by omega) ?_;intro i p1 ih;by_cases hi:i<a.length
 ·obtain ⟨x,hx⟩ : ∃ x,a[i]? = some x:=⟨_,zE hi⟩
  obtain ⟨y,hy⟩ : ∃ y,b[i]? = some y:=⟨_,zE (by omega)⟩;have lf:a[(i:Int).toNat]? = some x:=hx;have xd:b[(i:Int).toNat]? = some y:=hy;have ta:=WE N.toa7 (ha.at hx) (by omega);have Cd:=Ahk N.toa7 qb (hb.at hy) (by omega);have hM:=uG N.toa7 qb (ha.at hx) (hb.at hy) (by omega) (by omega);have hd:Bt (64*(k+l+1)) (A3 (a.take i) (b.take i)):=by
   refine ((ha.take i).dot (hb.take i)).le (zR _ ?_);rw[List.length_take];omega
  have hA:=JQ N.toa7 hd ((ha.at hx).mul (hb.at hy)) (by omega) (by omega);rw[<-YH hx hy]at hA;have hz:x=0\/y=0->A3 (a.take i) (b.take i)=A3 (a.take (i+1)) (b.take (i+1)):=λ h=>by
   rw[YH hx hy];rcases h with h|h<;>rw[h]<;>grind
  by_cases h1:x=0
  ·have s1:o9 x.num=0:=TR.2 h1
   rw[s1]at ta;rw[hz (Or.inl h1)];clear hA hz hd;(repeat' ((first|(apply AG<;>intro hc<;>try omega)|(apply AQ;omega)|(refine A9 (by assumption) ?_ rfl ?_;omega)|apply AE|refine AD (ta) ?_)<;>conv=>whnf))
   exact BB [] (ih (i+1) (by omega) (by omega))
  ·have s1:o9 x.num≠0:=λ h=>h1 (TR.1 h)
   generalize o9 x.num=g1 at *;by_cases h2:y=0
   ·have s2:o9 y.num=0:=TR.2 h2
    rw[s2]at Cd;rw[hz (Or.inr h2)];clear hA hz hd;(repeat' ((first|(apply AG<;>intro hc<;>try omega)|(apply AQ;omega)|(refine A9 (by assumption) ?_ rfl ?_;omega)|apply AE|refine AD (ta) ?_|refine AD (Cd) ?_)<;>conv=>whnf))
    exact BB [] (ih (i+1) (by omega) (by omega))
   ·have s2:o9 y.num≠0:=λ h=>h2 (TR.1 h)
    generalize o9 y.num=g2 at *;clear hz hd;generalize A3 (a.take i) (b.take i)=w at *;generalize x*y=p at *;(repeat' ((first|(apply AG<;>intro hc<;>try omega)|(apply AQ;omega)|(refine A9 (by assumption) ?_ rfl ?_;omega)|apply AE|refine AD (ta) ?_|refine AD (Cd) ?_|refine AD (hM) ?_|refine AD (hA) ?_)<;>conv=>whnf))
    exact BB [] (ih (i+1) (by omega) (by omega))
 obtain rfl:i=a.length:=by omega
 clear ih;rw[cC rfl];(repeat' ((first|(apply AG<;>intro hc<;>try omega)|apply AE)<;>conv=>whnf))
 exact AW rfl (C3 _)
theorem uN (N:m4 L) (q1 q2:Bool) (a b:List Rat) (k l:Nat) (hl:a.length=b.length) (ha:Bs k a) (hb:Bs l b) (hn:a.length<=64) (hk:k<=1000000000) (iv:l<=1000000000):Ev L 297 [.sl q1 (a.map eQ),.sl q2 (b.map eQ)] (.agg (eQ (A3 a b))):=uO N q1 q2 false a b k l hl ha hb hn hk iv
theorem AgO (N:m4 L) (q1 q2 q3:Bool) (a:List (List Rat)) (v:List Rat) (n k l:Nat) (hs:Sq n a) (hv:v.length=n) (ha:Ms k a) (hb:Bs l v) (hn:n<=4) (hk:k<=1000000000) (hl:l<=1000000000):Ev L 298 [.sl q1 (IB q3 a),.sl q2 (v.map eQ)] (.sl false ((DB a v).map eQ)):=by
 have bp:=hs.l;have pg:(DB a v).length=n:=by rw[WY];exact bp
 refine Ev.x N.NU rfl rfl ?_;(repeat' ((first|apply AP|apply AE)<;>conv=>whnf))
 refine D9 (enc:=eO) none n rfl (by omega) (by omega) ?_;(conv=>whnf)
 (repeat' (apply AP<;>conv=>whnf))
 refine D8 (λ i=>n-i) (λ(i:Nat)=>i<=n) (λ i=>[(12,.int .i64 i)]) (λ i=>[(9,9,.rw 3 ((DX ((DB a v).take i) n).map eO))]) [] [] 0 (by first|exact (by (conv=>whnf);exact ⟨rfl,rfl,rfl⟩)|(rw[List.take_zero,<-WK];exact (by (conv=>whnf);exact ⟨rfl,rfl,rfl⟩))) (by omega) ?_;intro i p1 ih;have fk:((DB a v).take i).length=i:=by rw[List.length_take];omega
 have Gm:=SA (l:=(DB a v).take i) (m:=n) (by omega);by_cases hi:i<n
 ·obtain ⟨r,hr⟩ : ∃ r,a[i]? = some r:=⟨_,zE (by omega)⟩
  have ot:a[(i:Int).toNat]? = some r:=hr;have cg:=hs.at hr;have hy:(DB a v)[i]? = some (A3 r v):=by rw[DB,List.getElem?_map,hr];rfl
  have k7:=UU (l:=(DB a v).take i) (m:=n) (x:=A3 r v) (by omega);rw[fk,<-I0 hy]at k7;have hD:=λ q q'=>uN N q q' r v k l (by omega) (ha.at hr) hb (by omega) hk hl
  generalize DX ((DB a v).take i) n=F0 at *;generalize A3 r v=y at *;(repeat' ((first|(apply AG<;>intro hc<;>try omega)|(apply A2;omega)|(refine A9 (by assumption) ?_ rfl ?_;omega)|apply AE|refine AD (hD _ _) ?_)<;>conv=>whnf))
  refine KB (enc:=eO) (some y) rfl (λ e=>by cases e<;>rfl) (by omega) ?_;(conv=>whnf)
  rw[k7];(repeat' ((first|(apply AQ;omega)|fail)<;>conv=>whnf))
  exact BB [] (ih (i+1) (by omega) (by omega))
 obtain rfl:i=n:=by omega
 clear ih;rw[zT (by omega),WJ pg];(repeat' ((first|(apply AG<;>intro hc<;>try omega)|apply AE)<;>conv=>whnf))
 refine CZ (enc:=eQ) (λ_=>rfl) rfl pg.symm ?_;(conv=>whnf)
 exact AW rfl (by simp only[AZ,true_and];exact KS _)
theorem Agk (N:v8 L) (m:List (List Rat)) (b:List Rat) (q1 q2 q3:Bool) (n k s:Nat) (hs:Sq n m) (hb:b.length=n) (hm:Ms k m) (vu:Bs s b) (hn:n<=4) (hK:4*(k+s+1)+k+s<2199023255552):Ev L 138 [.sl q1 (IB q3 m),.sl q2 (b.map eQ)] (.sl false ((DB m b).map eQ)):=by
 have pg:=hs.l;have gp:=WY m b;refine Ev.x N.PQ rfl rfl ?_;(repeat' (apply AE<;>conv=>whnf))
 refine D4 (λ j=>m.length-j) (λ(j:Nat)=>j<=m.length) (λ j=>[(6,.int .i64 j),(5,.row 138005 0 3 0 j)]) (λ j=>[(138005,138005,.rw 3 (((DB m b).take j).map eQ))]) 0 (by omega) ?_;intro j r1 jh;have hlen:((DB m b).take j).length=j:=by rw[List.length_take];omega
 by_cases hj:j<m.length
 ·obtain ⟨r,hr⟩ : ∃ r,m[j]? = some r:=⟨_,zE hj⟩
  have ot:m[(j:Int).toNat]? = some r:=hr;have cg:=hs.at hr;have Fh:=λ q q'=>tS N r b q q' k s (by omega) (hm.at hr) vu (by rw[cg];have:=zR (k+s+1) hn;omega) (by omega)
  have hy:(DB m b)[j]? = some (A3 r b):=by rw[DB,List.getElem?_map,hr];rfl
  have Dk:((DB m b).take (j+1)).length=j+1:=by rw[List.length_take];omega
  (repeat' ((first|(apply AG<;>intro hc<;>try omega)|apply AP|(refine A9 (by assumption) ?_ rfl ?_;omega)|apply DQ|apply AE|refine AD (Fh _ _) ?_)<;>conv=>whnf))
  refine FA (enc:=eQ) (A3 r b) rfl hlen.symm rfl (by omega) (by omega) ?_;(conv=>whnf)
  (repeat' ((first|(apply AQ;omega)|fail)<;>conv=>whnf))
  rw[<-Alf hy,Dk];exact BB [(138005,138021)] (jh (j+1) (by omega) (by omega))
 obtain rfl:j=m.length:=by omega
 clear jh;rw[zT (by omega)];(repeat' ((first|(apply AG<;>intro hc<;>try omega)|apply AP|apply AE)<;>conv=>whnf))
 refine CZ (enc:=eQ) (λ_=>rfl) rfl gp.symm ?_;(conv=>whnf)
 exact AW rfl (by simp only[AZ,true_and];exact KS _)
end Go.c6

namespace Go.c6
open F
attribute [local irreducible] AA AF AX AC CN AR BA A6 BV BH CM EI BO AY B0 CJ AB A5 AH pw CQ CE C8 EA DP BT CP BU C7
attribute [local irreducible] Wp
variable {L:Lib}
set_option maxHeartbeats 8000000
end Go.c6

namespace Go.c6
open F
attribute [local irreducible] AA AF AX AC CN AR BA A6 BV BH CM EI BO AY B0 CJ AB A5 AH pw CQ CE C8 EA DP BT CP BU C7
variable {L:Lib}
set_option maxHeartbeats 16000000
set_option maxRecDepth 8000
theorem Nf {l:List Rat} {i:Nat} {x:Rat} (h:l[i]? = some x):BF (l.take (i+1))=BF (l.take i)+A4 x:=by rw[I0 h,Nc]
theorem uS (N:m4 L) (q:Bool) (v:List Rat) (k:Nat) (hv:Bs k v) (hn:v.length<=1000) (hk:k<=1000000000):Ev L 300 [.sl q (v.map eQ)] (.agg (eQ (BF v))):=by
 have hO:=HN N.toa7 0 (by omega);rw[show ((0:Int):Rat)=0 from rfl]at hO;refine Ev.x N.OB rfl rfl ?_;(repeat' ((first|apply AP|apply AE|refine AD (hO) ?_)<;>conv=>whnf))
 refine D8 (λ i=>v.length-i) (λ(i:Nat)=>i<=v.length) (λ i=>[(9,.int .i64 i)]) (λ i=>[(3,3,.bx (eQ (BF (v.take i))))]) [] [] 0 (by rw[show BF (v.take 0)=0 from rfl];exact (by (conv=>whnf);exact ⟨rfl,rfl,rfl⟩)) (by omega) ?_;intro i p1 ih;by_cases hi:i<v.length
 ·obtain ⟨x,hx⟩ : ∃ x,v[i]? = some x:=⟨_,zE hi⟩
  have lf:v[(i:Int).toNat]? = some x:=hx;have hA:=YK N.toy6 (hv.at hx) (by omega);have hz:Bt (1000*(k+1)) (BF (v.take i)):=(RJ (hv.take i)).le (zR _ (by rw[List.length_take];omega));have hP:=JQ N.toa7 hz (HU (hv.at hx)) (by omega) (by omega);rw[<-Nf hx]at hP;generalize BF (v.take i)=w at *;generalize A4 x=y at *;(repeat' ((first|(apply AG<;>intro hc<;>try omega)|(apply AQ;omega)|(refine A9 (by assumption) ?_ rfl ?_;omega)|apply AE|refine AD (hA) ?_|refine AD (hP) ?_)<;>conv=>whnf))
  exact BB [] (ih (i+1) (by omega) (by omega))
 obtain rfl:i=v.length:=by omega
 clear ih;rw[zT (Nat.le_refl _)];(repeat' ((first|(apply AG<;>intro hc<;>try omega)|apply AE)<;>conv=>whnf))
 exact AW rfl (C3 _)
theorem wX {l:List Rat} {i:Nat} {x:Rat} (h:l[i]? = some x):CG (l.take (i+1))=HW (CG (l.take i)) x:=by rw[I0 h,AhK]
theorem P8 {x y:Rat}:0<o9 (x-y).num↔y<x:=by
 have h:=nF (x-y).num;have e1:(x-y).num<0↔x<y:=by rw[mF];constructor<;>intro h<;>grind
 have e2:(x-y).num=0↔x=y:=by rw[Rat.num_eq_zero];constructor<;>intro h<;>grind
 rcases h with ⟨h1,h2⟩|⟨h1,h2⟩|⟨h1,h2⟩
 ·have:=e1.1 h2
  rw[h1];constructor
  ·intro h;omega
  ·intro h;grind
 ·have:=e2.1 h2
  rw[h1];constructor
  ·intro h;omega
  ·intro h;grind
 ·have h3 : ¬ x<y:=λ h=>by have:=e1.2 h;omega
  have h4 : ¬ x=y:=λ h=>by have:=e2.2 h;omega
  rw[h1];constructor
  ·intro _;grind
  ·intro _;omega
theorem AgQ (N:m4 L) (q:Bool) (v:List Rat) (k:Nat) (hv:Bs k v) (hn:v.length<=1000000) (hk:k<=1000000000000):Ev L 301 [.sl q (v.map eQ)] (.agg (eQ (CG v))):=by
 have hO:=HN N.toa7 0 (by omega);rw[show ((0:Int):Rat)=0 from rfl]at hO;refine Ev.x N.N5 rfl rfl ?_;(repeat' ((first|apply AP|apply AE|refine AD (hO) ?_)<;>conv=>whnf))
 refine D8 (λ i=>v.length-i) (λ(i:Nat)=>i<=v.length) (λ i=>[(10,.int .i64 i)]) (λ i=>[(3,3,.bx (eQ (CG (v.take i))))]) [] [] 0 (by rw[show CG (v.take 0)=0 from rfl];exact (by (conv=>whnf);exact ⟨rfl,rfl,rfl⟩)) (by omega) ?_;intro i p1 ih;by_cases hi:i<v.length
 ·obtain ⟨x,hx⟩ : ∃ x,v[i]? = some x:=⟨_,zE hi⟩
  have lf:v[(i:Int).toNat]? = some x:=hx;have hA:=YK N.toy6 (hv.at hx) (by omega);have hC:=YN N.too8 (HU (hv.at hx)) (Q9 (hv.take i)) (by omega) (by omega);have hg:=P8 (x:=A4 x) (y:=CG (v.take i));have hs:CG (v.take (i+1))=if CG (v.take i)<A4 x then A4 x else CG (v.take i):=wX hx
  by_cases h:CG (v.take i)<A4 x
  ·rw[if_pos h]at hs
   have h1:=hg.2 h;rw[<-hs]at hA hC h1;generalize o9 (CG (v.take (i+1))-CG (v.take i)).num=g at *;(repeat' ((first|(apply AG<;>intro hc<;>try omega)|(apply AQ;omega)|(refine A9 (by assumption) ?_ rfl ?_;omega)|apply AE|refine AD (hA) ?_|refine AD (hC) ?_)<;>conv=>whnf))
   exact BB [] (ih (i+1) (by omega) (by omega))
  ·rw[if_neg h]at hs
   have h1 : ¬ 0<o9 (A4 x-CG (v.take i)).num:=λ e=>h (hg.1 e)
   rw[<-hs]at hC h1 ⊢;clear hg h hs;generalize o9 (A4 x-CG (v.take (i+1))).num=g at *;generalize A4 x=y at *;(repeat' ((first|(apply AG<;>intro hc<;>try omega)|(apply AQ;omega)|(refine A9 (by assumption) ?_ rfl ?_;omega)|apply AE|refine AD (hA) ?_|refine AD (hC) ?_)<;>conv=>whnf))
   exact BB [] (ih (i+1) (by omega) (by omega))
 obtain rfl:i=v.length:=by omega
 clear ih;rw[zT (Nat.le_refl _)];(repeat' ((first|(apply AG<;>intro hc<;>try omega)|apply AE)<;>conv=>whnf))
 exact AW rfl (C3 _)
theorem AgP (N:m4 L) (q q':Bool) (a:List (List Rat)) (D:Rat) (n k l:Nat) (hs:Sq n a) (ha:Ms k a) (hD:Bt l D) (hn:n<=16) (hk:k<=1000000000) (hl:l<=1000000000):Ev L 302 [.sl q (IB q' a),.agg (eQ D)] (.bool (decide (∀ r∈a,BF r+BF r<=D))):=by
 have bp:=hs.l;refine Ev.x N.NZ rfl rfl ?_;(repeat' ((first|apply AP|apply AE)<;>conv=>whnf))
 refine D4 (λ i=>n-i) (λ(i:Nat)=>i<=n /\ ∀ r∈a.take i,BF r+BF r<=D) (λ i=>[(10,.int .i64 i)]) (λ_=>[]) 0 ⟨by omega,λ r hr=>by cases hr⟩ ?_;intro i ⟨p1,p2⟩ ih;by_cases hi:i<n
 ·obtain ⟨r,hr⟩ : ∃ r,a[i]? = some r:=⟨_,zE (by omega)⟩
  have ot:a[(i:Int).toNat]? = some r:=hr;have cg:=hs.at hr;have hT:=λ q=>uS N q r k (ha.at hr) (by omega) hk
  have hz:Bt (16*(k+1)) (BF r):=(RJ (ha.at hr)).le (zR _ (by omega));have hP:=JQ N.toa7 hz hz (by omega) (by omega);have hC:=YN N.too8 (hz.add hz) hD (by omega) (by omega);have hg:=P8 (x:=BF r+BF r) (y:=D);by_cases h:D<BF r+BF r
  ·have gk : ¬ ∀ r∈a,BF r+BF r<=D:=λ e=>by
    have:=e r (zM hr)
    grind
   have:=hg.2 h
   rw[decide_eq_false gk];clear gk p2 ih hz h hg;generalize o9 (BF r+BF r-D).num=g at *;generalize BF r+BF r=w at *;generalize BF r=z at *;(repeat' ((first|(apply AG<;>intro hc<;>try omega)|(refine A9 (by assumption) ?_ rfl ?_;omega)|apply AE|refine AD (hT _) ?_|refine AD (hP) ?_|refine AD (hC) ?_)<;>conv=>whnf))
   exact FV rfl
  ·have Lq : ∀ r∈a.take (i+1),BF r+BF r<=D:=λ s hs=>by
    rw[I0 hr]at hs;rcases List.mem_append.1 hs with hs|hs
    ·exact p2 s hs
    ·obtain rfl:=List.mem_singleton.1 hs
     grind
   have : ¬ 0<o9 (BF r+BF r-D).num:=λ e=>h (hg.1 e)
   clear p2 hz h hg;generalize o9 (BF r+BF r-D).num=g at *;generalize BF r+BF r=w at *;generalize BF r=z at *;(repeat' ((first|(apply AG<;>intro hc<;>try omega)|(apply AQ;omega)|(refine A9 (by assumption) ?_ rfl ?_;omega)|apply AE|refine AD (hT _) ?_|refine AD (hP) ?_|refine AD (hC) ?_)<;>conv=>whnf))
   exact BB [] (ih (i+1) (by omega) ⟨by omega,Lq⟩)
 obtain rfl:i=n:=by omega
 clear ih;rw[zT (by omega)]at p2;rw[decide_eq_true p2];(repeat' ((first|(apply AG<;>intro hc<;>try omega)|apply AE)<;>conv=>whnf))
 exact FV rfl
theorem yZ {α:Type} {a b:List α} {j:Nat} {y:α} (hl:a.length=b.length) (hy:a[j]? = some y):(a.take j++b.drop j).set j y=a.take (j+1)++b.drop (j+1):=by
 have h:=(zS hy).1;rw[List.set_append_right _ _ (by rw[List.length_take];omega),List.length_take,Nat.min_eq_left (by omega),Nat.sub_self,List.drop_eq_getElem_cons (by omega),List.set_cons_zero,List.take_add_one,hy,Option.toList_some,List.append_assoc];rfl
def IM (Q:List (List Rat)) (n j:Nat):List (Option (Nat × List (List AV))):=Q.map λ r=>some (3,(DX (r.take j) n).map eO)
def LK (Q:List (List Rat)) (n j m:Nat):List (Option (Nat × List (List AV))):=(IM Q n (j+1)).take m++(IM Q n j).drop m
theorem R4 (Q:List (List Rat)) (n j:Nat):(IM Q n j).length=Q.length:=by simp [IM]
theorem Aew (Q:List (List Rat)) (n j:Nat):LK Q n j 0=IM Q n j:=by simp [LK]
theorem Aet (Q:List (List Rat)) (n j:Nat):LK Q n j Q.length=IM Q n (j+1):=by
 rw[LK,zT (by rw[R4];exact Nat.le_refl _),List.drop_of_length_le (by rw[R4];exact Nat.le_refl _),List.append_nil]
theorem Aeu {Q:List (List Rat)} {n j m:Nat} (h:m<=Q.length):(LK Q n j m).length=Q.length:=by
 rw[LK,List.length_append,List.length_take,List.length_drop,R4,R4];omega
theorem Aes {Q:List (List Rat)} {n j m:Nat} {r:List Rat} (hr:Q[m]? = some r):(LK Q n j m)[m]? = some (some (3,(DX (r.take j) n).map eO)):=by
 have h:=(zS hr).1;rw[LK,List.getElem?_append_right (by rw[List.length_take,R4];omega),List.length_take,R4,Nat.min_eq_left (by omega),Nat.sub_self,List.getElem?_drop,Nat.add_zero,IM,List.getElem?_map,hr];rfl
theorem Aev {Q:List (List Rat)} {n j m:Nat} {r:List Rat} (hr:Q[m]? = some r):(LK Q n j m).set m (some (3,(DX (r.take (j+1)) n).map eO))=LK Q n j (m+1):=by
 have h:=(zS hr).1;exact yZ (by rw[R4,R4]) (by rw[IM,List.getElem?_map,hr];rfl)
theorem Xa {R:List (Option (Nat × List (List AV)))} {i z:Nat} {es:List (List AV)} {K:Nat->List (List AV)->Prop} (h:R[i]? = some (some (z,es))) (hk:K z es):CE R i K:=by
 unfold CE;exact ⟨z,es,h,hk⟩
theorem Aex {Q:List (List Rat)} {n:Nat} (h : ∀ r∈Q,r.length=n):IM Q n n=EL 3 eQ Q:=by
 refine List.map_congr_left λ r hr => ?_
 have:=h r hr
 rw[zT (by omega),WJ this]
theorem AgR (N:m4 L) (q q':Bool) (a:List (List Rat)) (n k:Nat) (hs:Sq n a) (ha:Ms k a) (hn:n<=4) (hk:k<=1000000000):Ev L 299 [.sl q (IB q' a)] (.sl false (eM (HF a a n))):=by
 have bp:=hs.l;have Cc:Sq n (HF a a n):=Sq.mul hs.l a;have Im : ∀ (i:Nat) (r:List Rat),a[i]? = some r->(HF a a n)[i]? = some (EZ r a n):=λ i r hr=>by rw[HF,List.getElem?_map,hr];rfl
 have Fj : ∀ (j:Nat) (r:List Rat),j<n->(EZ r a n)[j]? = some (A3 r (C9 a j)):=λ j r hj=>by rw[EZ,List.getElem?_map,List.getElem?_range hj];rfl
 have xx:=Cc.l;have Fi:=Cc.r;generalize HF a a n=Q at *;refine Ev.x N.N8 rfl rfl ?_;(repeat' ((first|apply AP|apply AE)<;>conv=>whnf))
 unfold DP;refine ⟨⟨by omega,by omega,by simp only[FI];omega,by omega⟩,?_⟩;rw[Int.toNat_natCast,bp];(conv=>whnf)
 skip
 have qz:=R4 Q n 0;have Ey : ∀ i,i<n->(IM Q n 0)[i]? = some (some (3,(List.replicate n (none:Option Rat)).map eO)):=λ i hi=>by
  rw[IM,List.getElem?_map,zE (by omega),Option.map_some,List.take_zero,WK]
 refine D8 (λ i=>n-i) (λ(i:Nat)=>i<=n) (λ i=>[(15,.int .i64 i)]) (λ i=>[(13,13,.mx (fz none ((IM Q n 0).take i) n))]) [] [] 0 (by first|exact (by (conv=>whnf);exact ⟨rfl,rfl,rfl⟩)|(rw[List.take_zero,show fz (none:Option (Nat × List (List AV))) [] n=List.replicate n none by simp [fz]];exact (by (conv=>whnf);exact ⟨rfl,rfl,rfl⟩))) (by omega) ?_;intro i p1 ih;have fk:((IM Q n 0).take i).length=i:=by rw[List.length_take];omega
 have fq:=kR (z:=(none:Option (Nat × List (List AV)))) (l:=(IM Q n 0).take i) (m:=n) (by omega);by_cases hi:i<n
 ·have qu:=kS (z:=(none:Option (Nat × List (List AV)))) (x:=some (3,(List.replicate n (none:Option Rat)).map eO)) (l:=(IM Q n 0).take i) (m:=n) (by omega)
  rw[fk,<-I0 (Ey i hi)]at qu;generalize fz (none:Option (Nat × List (List AV))) ((IM Q n 0).take i) n=J at *;(repeat' ((first|(apply AG<;>intro hc<;>try omega)|apply AE)<;>conv=>whnf))
  refine D9 (enc:=eO) none n rfl rfl (by omega) ?_;(conv=>whnf)
  (repeat' ((first|(apply A2;omega)|fail)<;>conv=>whnf))
  unfold AX C8;refine ⟨by simp,by omega,?_⟩;(conv=>whnf)
  rw[show 0+((i:Int)).toNat=i by omega,qu];(repeat' ((first|(apply AQ;omega)|fail)<;>conv=>whnf))
  exact BB [] (ih (i+1) (by omega) (by omega))
 have ei:i=n:=by omega
 clear ih fq;rw[ei,zT (by omega),kQ (by omega)];(repeat' ((first|(apply AG<;>intro hc<;>try omega)|apply AE)<;>conv=>whnf))
 refine D9 (enc:=eO) none n rfl rfl (by omega) ?_;(conv=>whnf)
 skip
 refine FU (λ j _=>n-j) (λ(j:Nat) (C:List (Option Rat))=>j<=n/\C.length=n) (λ j _=>[(27,.int .i64 j)]) (λ j C=>[(25,25,.rw 3 (C.map eO)),(13,13,.mx (IM Q n j))]) 0 (List.replicate n none) ⟨by omega,by simp⟩ ?_;intro j C ⟨r1,r2⟩ jh;by_cases hj:j<n
 ·have n6:(C9 a j).length=n:=by rw[Aeq];exact bp
  have At9:((C9 a j).map some).length=n:=by rw[List.length_map];exact n6
  (repeat' ((first|(apply AG<;>intro hc<;>try omega)|apply AE)<;>conv=>whnf))
  refine D8 (λ i=>n-i) (λ(i:Nat)=>i<=n) (λ i=>[(31,.int .i64 i)]) (λ i=>[(25,25,.rw 3 ((((C9 a j).map some).take i++C.drop i).map eO))]) [] [] 0 (by rw[List.take_zero,List.drop_zero,List.nil_append];exact (by (conv=>whnf);exact ⟨rfl,rfl,rfl⟩)) (by omega) ?_;intro i2 s1 kh;have pg:(((C9 a j).map some).take i2++C.drop i2).length=n:=by rw[List.length_append,List.length_take,List.length_drop];omega
  by_cases um:i2<n
  ·obtain ⟨r,hr⟩ : ∃ r,a[i2]? = some r:=⟨_,zE (by omega)⟩
   have cg:=hs.at hr;obtain ⟨x,hx⟩ : ∃ x,r[j]? = some x:=⟨_,zE (by omega)⟩;have ot:a[(i2:Int).toNat]? = some r:=hr;have lf:r[(j:Int).toNat]? = some x:=hx;have hcx:((C9 a j).map some)[i2]? = some (some x):=by
    rw[List.getElem?_map,C9,List.getElem?_map,hr];simp only[Option.map_some,List.getD_eq_getElem?_getD,hx,Option.getD_some]
   have k7:=yZ (a:=(C9 a j).map some) (b:=C) (by omega) hcx;generalize ((C9 a j).map some).take i2++C.drop i2=W at *;(repeat' ((first|(apply AG<;>intro hc<;>try omega)|(apply A2;omega)|(refine A9 (by assumption) ?_ rfl ?_;omega)|apply AE)<;>conv=>whnf))
   refine KB (enc:=eO) (some x) rfl (λ e=>by cases e<;>rfl) (by omega) ?_;(conv=>whnf)
   rw[k7];(repeat' ((first|(apply AQ;omega)|fail)<;>conv=>whnf))
   exact BB [] (kh (i2+1) (by omega) (by omega))
  obtain rfl:i2=n:=by omega
  clear kh pg;rw[zT (by omega),List.drop_of_length_le (by omega),List.append_nil,show ((C9 a j).map some).map eO=(C9 a j).map eQ by rw[List.map_map];rfl];(repeat' ((first|(apply AG<;>intro hc<;>try omega)|apply AE)<;>conv=>whnf))
  refine D8 (λ i=>i2-i) (λ(i:Nat)=>i<=i2) (λ i=>[(46,.int .i64 i)]) (λ i=>[(13,13,.mx (LK Q i2 j i))]) [] [] 0 (by rw[Aew];exact (by (conv=>whnf);exact ⟨rfl,rfl,rfl⟩)) (by omega) ?_;intro i3 s2 lh;have pg:=Aeu (Q:=Q) (n:=i2) (j:=j) (m:=i3) (by omega);by_cases Am:i3<i2
  ·obtain ⟨r,hr⟩ : ∃ r,a[i3]? = some r:=⟨_,zE (by omega)⟩
   have cg:=hs.at hr;have ot:a[(i3:Int).toNat]? = some r:=hr;have hq:=Im i3 r hr;have iq:=Aes (n:=i2) (j:=j) hq;have dz:=Aev (n:=i2) (j:=j) hq;have Ur:=Fj j r hj;have Kr:(EZ r a i2).length=i2:=Fi _ (zM hq);have Uk:((EZ r a i2).take j).length=j:=by rw[List.length_take];omega
   have qu:=UU (l:=(EZ r a i2).take j) (m:=i2) (x:=A3 r (C9 a j)) (by omega);rw[Uk,<-I0 Ur]at qu;have fq:=SA (l:=(EZ r a i2).take j) (m:=i2) (by omega);rw[<-qu]at dz;have hD:=λ q q'=>uN N q q' r (C9 a j) k k (by omega) (ha.at hr) (Ms.Hm ha j) (by omega) hk hk
   clear hq Ur qu Uk Kr;generalize DX ((EZ r a i2).take j) i2=W at *;generalize A3 r (C9 a j)=y at *;generalize LK Q i2 j i3=R0 at *;(repeat' ((first|(apply AG<;>intro hc<;>try omega)|(apply A2;omega)|apply AE)<;>conv=>whnf))
   refine aH (r:=some (3,W.map eO)) (by rw[Nat.zero_add,Int.toNat_natCast];exact iq) ?_;(conv=>whnf)
   (repeat' ((first|(refine A9 (by assumption) ?_ rfl ?_;omega)|fail)<;>conv=>whnf))
   refine CZ (enc:=eQ) (λ_=>rfl) rfl n6.symm ?_;(conv=>whnf)
   (repeat' (refine AD (hD _ _) ?_<;>conv=>whnf))
   refine A2 (by rw[List.length_map];omega) ?_;(conv=>whnf)
   skip
   refine Xa (z:=3) (es:=W.map eO) (by rw[Nat.zero_add,Int.toNat_natCast];exact iq) ?_;(conv=>whnf)
   refine KB (enc:=eO) (some y) rfl (λ e=>by cases e<;>rfl) (by omega) ?_;(conv=>whnf)
   unfold EA;refine ⟨by rw[List.length_map,List.length_map,List.length_set],?_⟩;rw[show 0+((i3:Int)).toNat=i3 by omega,dz];(conv=>whnf)
   (repeat' ((first|(apply AQ;omega)|fail)<;>conv=>whnf))
   exact BB [] (lh (i3+1) (by omega) (by omega))
  obtain rfl:i3=i2:=by omega
  clear lh pg;have wh:=Aet Q i3 j;rw[xx]at wh;rw[wh];(repeat' ((first|(apply AG<;>intro hc<;>try omega)|(apply AQ;omega)|apply AE)<;>conv=>whnf))
  rw[show (C9 a j).map eQ=((C9 a j).map some).map eO by rw[List.map_map];rfl];exact BB [] (jh (j+1) ((C9 a j).map some) (by omega) ⟨by omega,by rw[List.length_map];exact n6⟩)
 have ej:j=n:=by omega
 clear jh;rw[ej,Aex Fi];(repeat' ((first|(apply AG<;>intro hc<;>try omega)|apply AE)<;>conv=>whnf))
 refine QQ (λ_=>rfl) rfl (by omega) ?_;(conv=>whnf)
 exact AW rfl (qY Q)
abbrev IA (q:Bool) (R:List (List Rat)) (D:Rat) (p:Int) (T:Rat):List AV:=[.sl false (IB q R)]++eQ D++[.int .i64 p]++eQ T
theorem iI (R:List (List Rat)) (D:Rat) (p:Int) (T:Rat) (e:Int):AZ (.g8 [.agg (IA false R D p T),.int .i64 e]):=by
 have h1:=iJ R;have h2:=C3 D;have h3:=C3 T;simp only[AZ,BS,true_and,and_true,IA,List.cons_append,List.nil_append]at h1 h2 h3 ⊢;exact ⟨h1,h2.1,h2.2,h3.1,h3.2⟩
theorem RE {i:Nat} (h:i<=6):2^i<=64/\(2^i=64->i=6)/\1<=2^i:=by
 obtain rfl|rfl|rfl|rfl|rfl|rfl|rfl:i=0\/i=1\/i=2\/i=3\/i=4\/i=5\/i=6:=by omega
 all_goals decide
theorem dT {D:Rat} {d:Nat} (h:Bt d D) : ∀ j:Nat,Bt (j*d) (D^j)
 | 0=>by rw[Rat.pow_zero];exact Bt.one _
 | j+1=>by
  rw[Rat.pow_succ];exact ((dT h j).mul h).le (by rw[Nat.succ_mul];omega)
theorem U5 {S M:Nat} (h:S<=2^M):Bt M (S:Rat):=by
 refine ⟨?_,?_⟩
 ·rw[Rat.num_natCast,Int.natAbs_natCast];exact h
 ·rw[Rat.den_natCast];exact Nat.one_le_two_pow
theorem RC {S:Nat} (h:0<S):(0:Rat)<(S:Rat):=by
 have:=Rat.natCast_lt_natCast.2 h
 exact this
theorem uR (N:m4 L) (q q':Bool) (a:List (List Rat)) (n k:Nat) (hs:Sq n a) (ha:Ms k a) (hn:n<=4) (hk:k<=100000) :
  ∃ v,Ev L 303 [.sl q (IB q' a)] v/\((∃ i,i<=6/\HA n a i/\v = .g8 [.agg (IA false (B9 (HH a.flatten) a) (HH a.flatten) ((2^i:Nat):Int) (HH a.flatten^(2^i+2^i-1))),.int .i64 0]) \/
   ((∀ j,j<=6->DJ (B2 n a j)=false)/\v = .g8 [.agg [.sl false [],.bool false,.sl false [],.sl false [],.int .i64 0,.bool false,.sl false [],.sl false []],.int .i64 14])):=by
 have bp:=hs.l;have ur:n*n<=4*4:=Nat.mul_le_mul hn hn;have yz:n*n*k<=16*k:=zR k ur;have fq:a.flatten.length<=64:=by
  have : ∀ (a:List (List Rat)),(∀ r∈a,r.length=n)->a.flatten.length=a.length*n:=by
   intro a;induction a with
   | nil=>intro _;simp
   | cons r a ih =>
    intro h;rw[List.flatten_cons,List.length_append,ih λ x hx=>h x (List.mem_cons_of_mem _ hx),h r List.mem_cons_self,List.length_cons,Nat.succ_mul,Nat.add_comm]
  rw[this a hs.r,bp];omega
 have lu:=YP N q q' a k ha fq (by omega) (by omega);have hO:=HN N.toa7 1 (by omega);rw[show ((1:Int):Rat)=1 from rfl]at hO;obtain ⟨D0,eD,d1,d2,d3⟩:=ZX hs ha;have qi:Bt (16*k) (D0:Rat):=U5 (Nat.le_trans d2 (Nat.pow_le_pow_right (by omega) yz));have hDp:(0:Rat)<(D0:Rat):=RC d1;have Sf:=jE (Nat.le_trans d2 (Nat.pow_le_pow_right (by omega) yz));have Ta:=fJ hs hn d3;rw[eD]at lu ⊢;generalize (D0:Rat)=D at *;clear eD d1 d2 d3;have ye:(B9 D a).length=n:=by rw[Nh];exact bp
 have Is : ∀ (i:Nat) (r:List Rat),a[i]? = some r->(B9 D a)[i]? = some (r.map (· * D)):=λ i r hr=>AkH hr
 have rp : ∀ i,Sq n (B9 (DU D i) (B2 n a i)):=λ i=>nJ _ (TT hs i)
 have tf : ∀ i,i<=6->Ms 300000000 (B9 (DU D i) (B2 n a i)):=λ i hi r hr x hx=>((Ta i r hr x hx).le (by have:=Oz (k:=k) i (by omega);omega)).bt
 have y7 : ∀ i,i<=6->Bt 300000000 (DU D i):=λ i hi=>((Sf i).le (by
  have:=(RE hi).1
  have:=zR (16*k) this
  omega)).bt
 have Se:=λ(i:Nat) (q q':Bool) (hi:i<=6)=>AgP N q q' (B9 (DU D i) (B2 n a i)) (DU D i) n 300000000 300000000 (rp i) (tf i hi) (y7 i hi) (by omega) (by omega) (by omega)
 have Cg:=λ(i:Nat) (q q':Bool) (hi:i<=6)=>AgR N q q' (B9 (DU D i) (B2 n a i)) n 300000000 (rp i) (tf i hi) hn (by omega)
 have Su:=λ(i:Nat) (hi:i<=6)=>I6 N.toa7 (y7 i hi) (y7 i hi) (by omega) (by omega)
 have k7 : ∀ i,HF (B9 (DU D i) (B2 n a i)) (B9 (DU D i) (B2 n a i)) n=B9 (DU D (i+1)) (B2 n a (i+1)):=λ i=>Mi n a D i
 have Fz : ∀ i,(∀ r∈B9 (DU D i) (B2 n a i),BF r+BF r<=DU D i)↔DJ (B2 n a i)=true:=λ i=>AeC hDp
 have Ss:=λ(j:Nat) (hj:j<=128)=>I6 N.toa7 (dT qi j) qi (show j*(16*k)<2199023255552 by
  have:=zR (16*k) hj
  omega) (by omega)
 have Cy : ∀ (i:Nat) (q q':Bool),i<=6->Ev L 302 [.sl q (IB q' (B9 (DU D i) (B2 n a i))),.agg (eQ (DU D i))] (.bool (DJ (B2 n a i))):=λ i q q' hi=>by
  have:=Se i q q' hi
  rwa [show decide (∀ r∈B9 (DU D i) (B2 n a i),BF r+BF r<=DU D i)=DJ (B2 n a i) by rw[Bool.eq_iff_iff,decide_eq_true_iff];exact Fz i]at this
 have Cf : ∀ (i:Nat) (q q':Bool),i<=6->Ev L 299 [.sl q (IB q' (B9 (DU D i) (B2 n a i)))] (.sl false (eM (B9 (DU D (i+1)) (B2 n a (i+1))))):=λ i q q' hi=>by
  have:=Cg i q q' hi
  rwa [k7]at this
 have il : ∀ i,i<=6->Ev L 99 [.agg (eQ (DU D i)),.agg (eQ (DU D i))] (.agg (eQ (DU D (i+1)))):=Su;have Ii : ∀ j:Nat,j<=128->Ev L 99 [.agg (eQ (D^j)),.agg (eQ D)] (.agg (eQ (D^(j+1)))):=λ j hj=>by
  have:=Ss j hj
  rwa [<-Rat.pow_succ]at this
 have oe : ∀ q q':Bool,Ev L 302 [.sl q (IB q' (B9 D a)),.agg (eQ D)] (.bool (DJ (B2 n a 0))):=λ q q'=>Cy 0 q q' (by omega)
 have Io : ∀ q q':Bool,Ev L 299 [.sl q (IB q' (B9 D a))] (.sl false (eM (B9 (DU D 1) (B2 n a 1)))):=λ q q'=>Cf 0 q q' (by omega)
 have Bz:Ev L 99 [.agg (eQ D),.agg (eQ D)] (.agg (eQ (DU D 1))):=il 0 (by omega);clear Se Cg Su Ss k7 Fz tf y7 rp Ta Sf;refine Ev.xE N.N9 rfl rfl ?_;by_cases h0:n=0
 ·obtain rfl:a=[]:=List.length_eq_zero_iff.1 (by omega)
  have hb:DJ (B2 n [] 0)=true:=rfl;have nk:=oe false false;rw[hb]at nk;have hC2:Ev L 302 [.sl false [],.agg (eQ D)] (.bool true):=nk;have Sz:=Ii 0 (by omega);rw[Rat.pow_zero]at Sz;(repeat' ((first|apply AP|apply AE|refine AD (lu) ?_|refine AD (hO) ?_)<;>conv=>whnf))
  refine GJ ?_;(repeat' ((first|(apply AG<;>intro hc<;>try omega)|apply AE)<;>conv=>whnf))
  refine GJ ?_;(repeat' ((first|(apply BL;omega)|(apply FW;omega)|apply AE|refine AD (hC2) ?_)<;>conv=>whnf))
  refine GJ ?_;(repeat' ((first|(apply AG<;>intro hc<;>try omega)|(apply AQ;omega)|apply AE|refine AD (Sz) ?_)<;>conv=>whnf))
  refine GJ ?_;(repeat' ((first|(apply AG<;>intro hc<;>try omega)|apply AE)<;>conv=>whnf))
  refine ⟨.g8 [.agg (IA false [] D 1 (D^1)),.int .i64 0],?_,Or.inl ⟨0,by omega,⟨rfl,λ j hj=>absurd hj (by omega)⟩,rfl⟩⟩;exact AW rfl (iI [] D 1 (D^1) 0)
 (repeat' ((first|apply AP|apply AE|refine AD (lu) ?_|refine AD (hO) ?_)<;>conv=>whnf))
 refine FU (λ i _=>n-i) (λ(i:Nat) (fl:Bool)=>i<=n/\fl=decide (i=0)) (λ i _=>[(15,.int .i64 i)]) (λ i fl=>bif fl then [] else [(4,4,.bx ([.row 1000 0 1 0 i]++eQ D++[.int .i64 1]++eQ 1)),(1000,26,.rw 1 (((B9 D a).take i).map λ r=>[AV.sl false (r.map eQ)]))]) 0 true ⟨by omega,rfl⟩ ?_;intro i fl ⟨p1,p2⟩ ih;have cg:((B9 D a).take i).length=i:=by rw[List.length_take];omega
 by_cases hi:i<n
 ·obtain ⟨r,hr⟩ : ∃ r,a[i]? = some r:=⟨_,zE (by omega)⟩
  have ot:a[(i:Int).toNat]? = some r:=hr;have dm:=hs.at hr;have Fp:=λ q=>YQ N q r D k (16*k) (ha.at hr) qi (by omega) (by omega) (by omega)
  have iq:=Is i r hr;generalize r.map (· * D)=w at *;cases fl
  ·have nv:i≠0:=by simpa using p2.symm
   (repeat' ((first|(apply AG<;>intro hc<;>try omega)|(refine A9 (by assumption) ?_ rfl ?_;omega)|apply DQ|apply AE|refine AD (Fp _) ?_)<;>conv=>whnf))
   refine FA (l:=(B9 D a).take i) (z:=1) (bytes:=24) (enc:=λ r:List Rat=>[AV.sl false (r.map eQ)]) w rfl cg.symm rfl (by omega) (by omega) ?_;(conv=>whnf)
   (repeat' ((first|(apply AQ;omega)|fail)<;>conv=>whnf))
   rw[<-I0 iq,show ((B9 D a).take (i+1)).length=i+1 by rw[List.length_take];omega];exact BB [(1000,26)] (ih (i+1) false (by omega) ⟨by omega,by simp⟩)
  ·have nv:i=0:=by simpa using p2.symm
   subst nv;(repeat' ((first|(apply AG<;>intro hc<;>try omega)|(refine A9 (by assumption) ?_ rfl ?_;omega)|apply DQ|apply AE|refine AD (Fp _) ?_)<;>conv=>whnf))
   refine SY (enc:=λ r:List Rat=>[AV.sl false (r.map eQ)]) w rfl rfl (by omega) ?_;(conv=>whnf)
   (repeat' ((first|(apply AQ;omega)|fail)<;>conv=>whnf))
   rw[show [w]=(B9 D a).take (0+1) by rw[I0 iq];rfl];exact BB [(1000,26)] (ih 1 false (by omega) ⟨by omega,by simp⟩)
 have ei:i=n:=by omega
 obtain rfl:fl=false:=by rw[p2];simp;omega
 clear ih p2 cg;rw[ei,zT (by omega)];(repeat' ((first|(apply AG<;>intro hc<;>try omega)|apply AE)<;>conv=>whnf))
 refine FU (λ i _=>7-i) (λ(i:Nat) (fl:Bool)=>i<=6/\(fl=true->i=0) /\ ∀ j,j<i->DJ (B2 n a j)=false) (λ i fl=>[(7,bif fl then .row 1000 0 1 0 n else .sl false (eM (B9 (DU D i) (B2 n a i))))]) (λ i _=>[(8,8,.bx (eQ (DU D i))),(4,4,.bx ([.row 1000 0 1 0 n]++eQ D++[.int .i64 ((2^i:Nat):Int)]++eQ 1))]) 0 true ⟨by omega,λ_=>rfl,λ j hj=>absurd hj (by omega)⟩ ?_;intro i fl ⟨s1,s2,s3⟩ jh;obtain ⟨g1,g2,g3⟩:=RE s1;have pj:((2^(i+1):Nat):Int)=((2^i:Nat):Int)*2:=by rw[Nat.pow_succ];omega
 have Db:=λ q q'=>Cy i q q' s1
 have va:=λ q q'=>Cf i q q' s1
 have hmi:=il i s1;cases hb:DJ (B2 n a i)
 ·rw[hb]at Db
  by_cases h6:i=6
  ·have e64:((2^i:Nat):Int)=64:=by rw[h6];rfl
   have mn : ∀ j,j<=6->DJ (B2 n a j)=false:=λ j hj=>by
    by_cases h:j=6
    ·rw[h,<-h6];exact hb
    ·exact s3 j (by omega)
   cases fl
   ·rw[e64]
    (repeat' ((first|(apply AG<;>intro hc<;>try omega)|apply AE|refine AD (Db _ _) ?_)<;>conv=>whnf))
    exact ⟨_,AW rfl (by simp [AZ,BS,EV]),Or.inr ⟨mn,rfl⟩⟩
   ·exact absurd (s2 rfl) (by omega)
  ·have AuI:((2^i:Nat):Int)≠64:=λ e=>h6 (g2 (by omega))
   have ah : ∀ j,j<i+1->DJ (B2 n a j)=false:=λ j hj=>by
    by_cases h:j=i
    ·rw[h];exact hb
    ·exact s3 j (by omega)
   cases fl
   ·generalize 2^i=P at *
    (repeat' ((first|(apply AG<;>intro hc<;>try omega)|(apply FW;omega)|apply AE|refine AD (Db _ _) ?_|refine AD (va _ _) ?_|refine AD (hmi) ?_)<;>conv=>whnf))
    rw[<-pj];exact BB [] (jh (i+1) false (by omega) ⟨by omega,(λ h=>by cases h),ah⟩)
   ·obtain rfl:=s2 rfl
    have nk:=oe;rw[hb]at nk;generalize 2^0=P at *;(repeat' (apply AE<;>conv=>whnf))
    refine CZ (enc:=λ r:List Rat=>[AV.sl false (r.map eQ)]) (λ_=>rfl) rfl ye.symm ?_;(conv=>whnf)
    (repeat' ((first|(apply AG<;>intro hc<;>try omega)|refine AD (nk _ _) ?_)<;>conv=>whnf))
    refine CZ (enc:=λ r:List Rat=>[AV.sl false (r.map eQ)]) (λ_=>rfl) rfl ye.symm ?_;(conv=>whnf)
    (repeat' ((first|(apply FW;omega)|refine AD (Io _ _) ?_|refine AD (Bz) ?_)<;>conv=>whnf))
    rw[<-pj];exact BB [] (jh (0+1) false (by omega) ⟨by omega,(λ h=>by cases h),ah⟩)
 ·rw[hb]at Db
  have qw:HA n a i:=⟨hb,s3⟩;have u9 : ∀ r:AV,r = .g8 [.agg (IA false (B9 D a) D ((2^i:Nat):Int) (D^(2^i+2^i-1))),.int .i64 0]->((∃ i,i<=6/\HA n a i/\r = .g8 [.agg (IA false (B9 D a) D ((2^i:Nat):Int) (D^(2^i+2^i-1))),.int .i64 0])\/((∀ j,j<=6->DJ (B2 n a j)=false)/\r = .g8 [.agg [.sl false [],.bool false,.sl false [],.sl false [],.int .i64 0,.bool false,.sl false [],.sl false []],.int .i64 14])):=λ r hr=>Or.inl ⟨i,s1,qw,hr⟩
  clear pj jh;generalize 2^i=P at *;cases fl
  ·(repeat' ((first|(apply BL;omega)|(apply FW;omega)|apply AE|refine AD (Db _ _) ?_)<;>conv=>whnf))
   refine D8 (λ j=>P+P-1-j) (λ(j:Nat)=>j<=P+P-1) (λ j=>[(54,.int .i64 j)]) (λ j=>[(4,4,.bx ([.row 1000 0 1 0 n]++eQ D++[.int .i64 (P:Int)]++eQ (D^j)))]) [] [] 0 (by rw[Rat.pow_zero];exact (by (conv=>whnf);exact ⟨rfl,rfl,rfl⟩)) (by omega) ?_;intro j t1 kh;by_cases hj:j<P+P-1
   ·have hl:=Ii j (by omega)
    (repeat' ((first|(apply AG<;>intro hc<;>try omega)|(apply AQ;omega)|apply AE|refine AD (hl) ?_)<;>conv=>whnf))
    exact BB [] (kh (j+1) (by omega) (by omega))
   have ej:j=P+P-1:=by omega
   clear kh;rw[ej];(repeat' ((first|(apply AG<;>intro hc<;>try omega)|apply AE)<;>conv=>whnf))
   refine ⟨.g8 [.agg (IA false (B9 D a) D (P:Int) (D^(P+P-1))),.int .i64 0],?_,u9 _ rfl⟩;(conv=>whnf)
   refine CZ (enc:=λ r:List Rat=>[AV.sl false (r.map eQ)]) (λ_=>rfl) rfl ye.symm ?_;(conv=>whnf)
   exact AW rfl (iI _ _ _ _ 0)
  ·obtain rfl:=s2 rfl
   have nk:=oe;rw[hb]at nk;(repeat' (apply AE<;>conv=>whnf))
   refine CZ (enc:=λ r:List Rat=>[AV.sl false (r.map eQ)]) (λ_=>rfl) rfl ye.symm ?_;(conv=>whnf)
   (repeat' ((first|(apply BL;omega)|(apply FW;omega)|refine AD (nk _ _) ?_)<;>conv=>whnf))
   refine D8 (λ j=>P+P-1-j) (λ(j:Nat)=>j<=P+P-1) (λ j=>[(54,.int .i64 j)]) (λ j=>[(4,4,.bx ([.row 1000 0 1 0 n]++eQ D++[.int .i64 (P:Int)]++eQ (D^j)))]) [] [] 0 (by rw[Rat.pow_zero];exact (by (conv=>whnf);exact ⟨rfl,rfl,rfl⟩)) (by omega) ?_;intro j t1 kh;by_cases hj:j<P+P-1
   ·have hl:=Ii j (by omega)
    (repeat' ((first|(apply AG<;>intro hc<;>try omega)|(apply AQ;omega)|apply AE|refine AD (hl) ?_)<;>conv=>whnf))
    exact BB [] (kh (j+1) (by omega) (by omega))
   have ej:j=P+P-1:=by omega
   clear kh;rw[ej];(repeat' ((first|(apply AG<;>intro hc<;>try omega)|apply AE)<;>conv=>whnf))
   refine ⟨.g8 [.agg (IA false (B9 D a) D (P:Int) (D^(P+P-1))),.int .i64 0],?_,u9 _ rfl⟩;(conv=>whnf)
   refine CZ (enc:=λ r:List Rat=>[AV.sl false (r.map eQ)]) (λ_=>rfl) rfl ye.symm ?_;(conv=>whnf)
   exact AW rfl (iI _ _ _ _ 0)
theorem Aie {D:Rat} {f:Nat->Rat} {p j:Nat} (h:p<=j):ET D f (j+1-p)=ET D f (j-p)*D+f (j-p):=by
 rw[show j+1-p=(j-p)+1 by omega];rfl
abbrev TB (Z:List (List Rat)) (T:Rat):List AV:=[.sl false (eM Z)]++eQ T
theorem Aed (Z:List (List Rat)) (T:Rat):AZ (.agg (TB Z T)):=by
 have h1:=iJ Z;have h3:=C3 T;simp only[AZ,BS,true_and,and_true,TB,List.cons_append,List.nil_append]at h1 h3 ⊢;exact ⟨h1,h3.1,h3.2⟩
theorem uT (N:m4 L) (qr:Bool) (R:List (List Rat)) (D T:Rat) (z:Nat->List Rat) (n p kr kd kz:Nat) (hR:Sq n R) (Fk:Ms kr R) (hD:Bt kd D) (fe : ∀ j,j<=128->Bs kz (z j)) (vh : ∀ j,(z j).length=n) (hz : ∀ j,z (j+1)=DB R (z j))
  (hn:n<=4) (hp:1<=p/\p<=64) (k1:kr<=1000000000) (k2:kd<=1000000000) (k3:kz<=1000000000) :
  Ev L 304 [.agg (IA qr R D (p:Int) T),.sl false ((z 0).map eQ)] (.agg (TB ((List.range (p+p)).map z) (ET D (λ m=>CG (z (p+m))) p))):=by
 have hO:=HN N.toa7 0 (by omega);rw[show ((0:Int):Rat)=0 from rfl]at hO;have u9:=Aed ((List.range (p+p)).map z) (ET D (λ m=>CG (z (p+m))) p);have Eb : ∀ j,(List.range (j+1)).map z=(List.range j).map z++[z j]:=λ j=>by rw[List.range_succ,List.map_append];rfl
 have cg : ∀ j,((List.range j).map z).length=j:=λ j=>by simp
 have Ad : ∀ m,m<=64->Bt (64*(kd+kz+1)) (ET D (λ m=>CG (z (p+m))) m):=λ m hm=>(UY hD m λ j hj=>Q9 (fe (p+j) (by omega))).le (zR _ hm)
 refine Ev.x N.N3 rfl rfl ?_;(repeat' ((first|(apply FW;omega)|apply AE|refine AD (hO) ?_)<;>conv=>whnf))
 refine FU (λ j _=>p+p-j) (λ(j:Nat) (fl:Bool)=>j<=p+p/\fl=decide (j=0)) (λ j _=>[(14,.int .i64 j),(6,.sl false ((z (j-1)).map eQ))]) (λ j fl=>bif fl then [] else [(5,5,.bx ([.row 1000 0 1 0 j]++eQ (ET D (λ m=>CG (z (p+m))) (j-p)))),(1000,27,.rw 1 (((List.range j).map z).map λ r=>[AV.sl false (r.map eQ)]))]) 0 true ⟨by omega,rfl⟩ ?_;intro j fl ⟨p1,p2⟩ ih;by_cases hj:j<p+p
 ·have hA:=λ q1 q2=>AgO N q1 q2 qr R (z (j-1)) n kr kz hR (vh _) Fk (fe _ (by omega)) hn k1 k3
  have hG:=λ q=>AgQ N q (z j) kz (fe j (by omega)) (by rw[vh];omega) (by omega)
  have hs:=Eb j;have hl:=cg j;have dj:=cg (j+1);cases fl
  ·have Di:j≠0:=by simpa using p2.symm
   have Lu:DB R (z (j-1))=z j:=by rw[<-hz];congr 1;omega
   rw[Lu]at hA;by_cases Kc:p<=j
   ·have h1:=I6 N.toa7 (Ad (j-p) (by omega)) hD (by omega) (by omega)
    have h2:=JQ N.toa7 ((Ad (j-p) (by omega)).mul hD) (Q9 (fe j (by omega))) (by omega) (by omega);have he:ET D (λ m=>CG (z (p+m))) (j-p)*D+CG (z j)=ET D (λ m=>CG (z (p+m))) (j+1-p):=by
     rw[Aie Kc,show p+(j-p)=j by omega]
    rw[he]at h2;have e1:z (j+1-1)=z j:=rfl;rw[<-e1]at hG hA hs h2 Lu;generalize (List.range j).map z=Z at *;(repeat' ((first|(apply AG<;>intro hc<;>try omega)|apply DQ|apply AE|refine AD (hA _ _) ?_)<;>conv=>whnf))
    refine FA (l:=Z) (z:=1) (bytes:=24) (enc:=λ r:List Rat=>[AV.sl false (r.map eQ)]) (z (j+1-1)) rfl hl.symm rfl (by omega) (by omega) ?_;rw[<-hs,dj];(conv=>whnf)
    (repeat' ((first|(apply AG<;>intro hc<;>try omega)|(apply AQ;omega)|refine AD (h1) ?_|refine AD (hG _) ?_|refine AD (h2) ?_)<;>conv=>whnf))
    exact BB [(1000,27)] (ih (j+1) false (by omega) ⟨by omega,by simp⟩)
   ·have ez:j-p=j+1-p:=by omega
    have e1:z (j+1-1)=z j:=rfl;rw[<-e1]at hA hs Lu;rw[ez];generalize (List.range j).map z=Z at *;(repeat' ((first|(apply AG<;>intro hc<;>try omega)|apply DQ|apply AE|refine AD (hA _ _) ?_)<;>conv=>whnf))
    refine FA (l:=Z) (z:=1) (bytes:=24) (enc:=λ r:List Rat=>[AV.sl false (r.map eQ)]) (z (j+1-1)) rfl hl.symm rfl (by omega) (by omega) ?_;rw[<-hs,dj];(conv=>whnf)
    (repeat' ((first|(apply AG<;>intro hc<;>try omega)|(apply AQ;omega))<;>conv=>whnf))
    exact BB [(1000,27)] (ih (j+1) false (by omega) ⟨by omega,by simp⟩)
  ·have Di:j=0:=by simpa using p2.symm
   subst Di;have ez:ET D (λ m=>CG (z (p+m))) (0+1-p)=0:=by rw[show 0+1-p=0 by omega];rfl
   (repeat' ((first|(apply AG<;>intro hc<;>try omega)|apply DQ|apply AE)<;>conv=>whnf))
   refine SY (enc:=λ r:List Rat=>[AV.sl false (r.map eQ)]) (z 0) rfl rfl (by omega) ?_;(conv=>whnf)
   (repeat' ((first|(apply AG<;>intro hc<;>try omega)|(apply AQ;omega))<;>conv=>whnf))
   rw[show [z 0]=(List.range (0+1)).map z from rfl];rw[<-ez];exact BB [(1000,27)] (ih (0+1) false (by omega) ⟨by omega,by simp⟩)
 have ej:j=p+p:=by omega
 obtain rfl:fl=false:=by rw[p2];simp;omega
 clear ih p2;have hl:=cg j;rw[show j-p=p by omega];rw[<-ej]at u9 ⊢;(repeat' ((first|(apply AG<;>intro hc<;>try omega)|(refine CZ (λ_=>rfl) rfl ?_ ?_;(first|rfl|simp))|apply AE)<;>conv=>whnf))
 exact AW rfl u9
abbrev R5 (m:List (List Rat)):List (List AV):=m.map λ r=>[AV.sl true (r.map (JP true))]
theorem yP (Z:List (List Rat)) (T:Rat):LN (.agg (TB Z T)) = .agg ([.sl true (R5 Z)]++JP true T):=by
 have hd : ∀ l:List Nat,KV (l.map AL)=l.map AL:=λ l=>by
  induction l with
  | nil=>rfl
  | cons x l ih=>rw[List.map_cons,KV,ih];rfl
 have hq : ∀ x:Rat,IR (eQ x)=JP true x:=λ x=>by
  show IR [.bool _,.sl false _,.sl false _]=_;simp only[IR,HO,hd]
 have hr : ∀ r:List Rat,KV (r.map eQ)=r.map (JP true):=λ r=>by
  induction r with
  | nil=>rfl
  | cons x r ih=>rw[List.map_cons,KV,ih,hq];rfl
 have hz : ∀ Z:List (List Rat),KV (eM Z)=R5 Z:=λ Z=>by
  induction Z with
  | nil=>rfl
  | cons r Z ih =>
   have Et:KV (Z.map λ r=>[AV.sl false (r.map eQ)])=Z.map λ r=>[AV.sl true (r.map (JP true))]:=ih
   show KV ([AV.sl false (r.map eQ)]::Z.map λ r=>[AV.sl false (r.map eQ)])=_;rw[KV,Et];simp only[IR,HO,hr];rfl
 show AV.agg (IR (AV.sl false (eM Z)::eQ T))=_;rw[IR,hq];simp only[HO,hz];rfl
theorem uP (N:m4 L) (qr q:Bool) (R:List (List Rat)) (D T U:Rat) (P:Int) (c:List Rat) (z:Nat->List Rat) (n m kd kc kz kt:Nat) (hD:Bt kd D) (hc:Bs kc c) (n6:c.length=n) (fe : ∀ j,j<=128->Bs kz (z j)) (vh : ∀ j,(z j).length=n) (hT:Bt kt T)
  (hn:n<=4) (hm:m<=128) (k1:kc<=100000000) (k2:kd<=100000000) (k3:kz<=100000000) (k4:kt<=100000000000) :
  Ev L 305 [.agg (IA qr R D P U),.sl q (c.map eQ),.agg ([.sl true (R5 ((List.range m).map z))]++JP true T)] (.agg (eQ (ET D (λ j=>A4 (A3 c (z j))) m+BF c*T))):=by
 have hO:=HN N.toa7 0 (by omega);rw[show ((0:Int):Rat)=0 from rfl]at hO;have cg:((List.range m).map z).length=m:=by simp
 have Uc : ∀ j,j<m->((List.range m).map z)[j]? = some (z j):=λ j hj=>by rw[List.getElem?_map,List.getElem?_range hj];rfl
 have y7 : ∀ j,j<=128->Bt (4*(kc+kz+1)) (A3 c (z j)):=λ j hj=>(hc.dot (fe j hj)).le (zR _ (by omega))
 have hH : ∀ t,t<=128->Bt (128*(kd+4*(kc+kz+1)+1)) (ET D (λ j=>A4 (A3 c (z j))) t):=λ t ht=>(UY hD t λ j hj=>HU (y7 j (by omega))).le (zR _ ht)
 have vg:Bt (4*(kc+1)) (BF c):=(RJ hc).le (zR _ (by omega));generalize (List.range m).map z=Z at *;refine Ev.x N.N2 rfl rfl ?_;(repeat' ((first|apply AP|apply AE|refine AD (hO) ?_)<;>conv=>whnf))
 refine D4 (λ j=>m-j) (λ(j:Nat)=>j<=m) (λ j=>[(14,.int .i64 j)]) (λ j=>[(7,7,.bx (eQ (ET D (λ j=>A4 (A3 c (z j))) j)))]) 0 (by omega) ?_;intro j p1 ih;by_cases hj:j<m
 ·have hr:=Uc j hj
  have ot:Z[(j:Int).toNat]? = some (z j):=hr;have h1:=I6 N.toa7 (hH j (by omega)) hD (by omega) (by omega);have hd:=λ q q'=>uO N q q' true c (z j) kc kz (by rw[n6,vh]) hc (fe j (by omega)) (by omega) (by omega) (by omega)
  have ha:=YK N.toy6 (y7 j (by omega)) (by omega);have h2:=JQ N.toa7 ((hH j (by omega)).mul hD) (HU (y7 j (by omega))) (by omega) (by omega);have vp:Ev L 98 [.agg (eQ (ET D (λ j=>A4 (A3 c (z j))) j*D)),.agg (eQ (A4 (A3 c (z j))))] (.agg (eQ (ET D (λ j=>A4 (A3 c (z j))) (j+1)))):=h2;clear h2 y7 hH vg;(repeat' ((first|(apply AG<;>intro hc<;>try omega)|(apply AQ;omega)|(refine A9 (by assumption) ?_ rfl ?_;omega)|apply AE|refine AD (h1) ?_|refine AD (hd _ _) ?_|refine AD (ha) ?_|refine AD (vp) ?_)<;>conv=>whnf))
  exact BB [] (ih (j+1) (by omega) (by omega))
 have ej:j=m:=by omega
 clear ih;rw[ej];have hS:=λ q=>uS N q c kc hc (by omega) (by omega)
 have h1:=uG N.toa7 true vg hT (by omega) (by omega);have h2:=JQ N.toa7 (hH m hm) (vg.mul hT) (by omega) (by omega);(repeat' ((first|(apply AG<;>intro hc<;>try omega)|apply AE|refine AD (hS _) ?_|refine AD (h1) ?_|refine AD (h2) ?_)<;>conv=>whnf))
 exact AW rfl (C3 _)
theorem Ny {Z:List (List Rat)} {T:Rat} (h:Z≠[]) : ¬ JG (.agg (TB Z T)):=by
 intro hf;have h1:=hf (.sl false (eM Z)) (by simp);cases Z with
 | nil=>exact h rfl
 | cons r Z =>
  have h2:=h1 [.sl false (r.map eQ)] (by simp) (.sl false (r.map eQ)) (by simp);simp [mE]at h2
theorem oR {n k j:Nat} (hn:n<=4) (hj:j<=128):VT n k j<=5*k+128*(17*k+4):=by
 have h1:n*n<=4*4:=Nat.mul_le_mul hn hn;have h2:n*n*k<=16*k:=zR k h1;have h3:n*k<=4*k:=zR k hn;have h4:j*((k+n*n*k)+n)<=128*(17*k+4):=Nat.mul_le_mul hj (by omega);rw[VT];omega
theorem YZ (b:List Rat):[b].flatten=b:=by simp
theorem AgS (N:m4 L) (S:FE) (n k:Nat) (hS:S.Ok n k) (hn:n<=4) (hk:k<=1000) :
  ∃ v,Ev L 307 [.agg (eS S)] v/\((∃ i,i<=6/\HA n S.a i/\v = .g8 [.agg (eQ (EP S (2^i))),.int .i64 0])\/((∀ j,j<=6->DJ (B2 n S.a j)=false)/\v = .g8 [.agg [.bool false,.sl false [],.sl false []],.int .i64 14])):=by
 have Ed:=Agi N.tov8 S n k hS (by omega);have Aq:=hS.la;have Ar:=hS.lb;have ia:=hS.lc;have tc:Sq n S.a:=⟨hS.la,hS.lr⟩;obtain ⟨v,ud,hv⟩:=uR N false false S.a n k tc hS.ba hn (by omega);have ub:=YP N true false [S.b] k (λ r hr=>by obtain rfl:=List.mem_singleton.1 hr;exact hS.bb) (by rw[YZ];omega) (by simp) (by omega);have oe:=YP N true false [S.c] k (λ r hr=>by obtain rfl:=List.mem_singleton.1 hr;exact hS.bc) (by rw[YZ];omega) (by simp) (by omega);rw[YZ]at ub oe;refine Ev.xE N.NT rfl rfl ?_;rcases hv with ⟨i,h1,h2,rfl⟩|⟨h1,rfl⟩
 ·obtain ⟨D,eD,d1,d2,d3⟩:=ZX tc hS.ba
  obtain ⟨E,eE,e1,e2,e3⟩:=Y7 hS.lb hS.bb;obtain ⟨O,Bo,o1,o2,o3⟩:=Y7 hS.lc hS.bc;obtain ⟨g1,_,g3⟩:=RE h1;have ur:n*n<=4*4:=Nat.mul_le_mul hn hn;have yz:n*n*k<=16*k:=zR k ur;have AuL:n*k<=4*k:=zR k hn;have bD:Bt 16000 (D:Rat):=(U5 d2).le (by omega);have bE:Bt 4000 (E:Rat):=(U5 e2).le (by omega);have bO:Bt 4000 (O:Rat):=(U5 o2).le (by omega);have pD:=RC d1;have pE:=RC e1;have pO:=RC o1;have Uv:=oS tc d3 e3;have fe : ∀ j,j<=128->Bs 3000000 (DD S.a S.b (D:Rat) (E:Rat) j):=λ j hj x hx=>((Uv j x hx).le (by have:=oR (n:=n) (k:=k) hn hj;omega)).bt
  have ke:Bs 5000 (S.c.map (· * (O:Rat))):=λ x hx=>((o3 x hx).le (by omega)).bt
  have Fk:Ms 17000 (B9 (D:Rat) S.a):=λ r hr x hx=>((d3 r hr x hx).le (by omega)).bt
  have my:=Re (S:=S) (p:=2^i) g3 pD pE pO;have wy:EP S (2^i)=A4 S.d+(B4 (GV S.a S.b S.c) (2^i+2^i)+BF S.c*B4 (λ j=>GE S.a S.b (2^i+j)) (2^i)):=rfl;rw[<-my]at wy;rw[eD]at ud;rw[eE]at ub;rw[Bo]at oe;clear eD eE Bo Uv d1 d2 d3 e1 e2 e3 o1 o2 o3 my;generalize (D:Rat)=D at *;generalize (E:Rat)=E at *;generalize (O:Rat)=O at *;have Iq:=λ q=>YQ N q S.c O k 4000 hS.bc bO (by omega) (by omega) (by omega)
  have Ip:=λ q=>YQ N q S.b E k 4000 hS.bb bE (by omega) (by omega) (by omega)
  have vh : ∀ j,(DD S.a S.b D E j).length=n:=λ j=>by rw[DD,List.length_map,XJ Aq Ar]
  have hW:=uT N false (B9 D S.a) D (D^(2^i+2^i-1)) (DD S.a S.b D E) n (2^i) 17000 16000 3000000 (nJ _ tc) Fk bD fe vh (gB S.a S.b D E) hn ⟨g3,g1⟩ (by omega) (by omega) (by omega);rw[gC]at hW;have bt:Bt 200000000 (ET D (λ m=>CG (DD S.a S.b D E (2^i+m))) (2^i)):=(UY bD _ λ j hj=>Q9 (fe (2^i+j) (by omega))).le (by
   have:=zR (16000+3000000+1) g1
   omega)
  have hG:=λ q=>uP N false q (B9 D S.a) D (ET D (λ m=>CG (DD S.a S.b D E (2^i+m))) (2^i)) (D^(2^i+2^i-1)) ((2^i:Nat):Int) (S.c.map (· * O)) (DD S.a S.b D E) n (2^i+2^i) 16000 5000 3000000 200000000 bD ke (by rw[List.length_map];exact ia) fe vh bt hn (by omega) (by omega) (by omega) (by omega) (by omega)
  have xj:Bt 3000000000 (ET D (λ j=>A4 (A3 (S.c.map (· * O)) (DD S.a S.b D E j))) (2^i+2^i)+BF (S.c.map (· * O))*ET D (λ m=>CG (DD S.a S.b D E (2^i+m))) (2^i)):=by
   have q1 : ∀ j,j<2^i+2^i->Bt (4*(5000+3000000+1)) (A4 (A3 (S.c.map (· * O)) (DD S.a S.b D E j))):=λ j hj=>HU ((ke.dot (fe j (by omega))).le (zR _ (by rw[List.length_map];omega)))
   have q2:=(UY bD (2^i+2^i) q1).le (zR _ (show 2^i+2^i<=128 by omega));have q3:Bt (4*(5000+1)) (BF (S.c.map (· * O))):=(RJ ke).le (zR _ (by rw[List.length_map];omega));exact (q2.add (q3.mul bt)).le (by omega)
  have blast:Bt 2100000 (D^(2^i+2^i-1)):=(dT bD _).le (by
   have:=zR 16000 (show 2^i+2^i-1<=127 by omega)
   omega)
  have fp:=I6 N.toa7 bE bO (by omega) (by omega);have il:=I6 N.toa7 blast (bE.mul bO) (by omega) (by omega);have l9:D^(2^i+2^i-1)*(E*O)≠0:=by
   have zh : ∀ j:Nat,0<D^j:=λ j=>by
    induction j with
    | zero=>rw[Rat.pow_zero];decide
    | succ j ih=>rw[Rat.pow_succ];exact Rat.mul_pos ih pD
   have:=Rat.mul_pos (zh (2^i+2^i-1)) (Rat.mul_pos pE pO)
   grind
  have Hu:=cH N.toa7 xj (blast.mul (bE.mul bO)) (by omega) (by omega) l9;have Fb:=YK N.toy6 hS.bd (by omega);have Fc:=JQ N.toa7 (HU hS.bd) (xj.od (blast.mul (bE.mul bO))) (by omega) (by omega);rw[<-wy]at Fc;have Cz : ¬ JG (.agg (TB ((List.range (2^i+2^i)).map (DD S.a S.b D E)) (ET D (λ m=>CG (DD S.a S.b D E (2^i+m))) (2^i)))):=Ny (by
   intro e;have:=congrArg List.length e
   simp at this)
  have Dl:=yP ((List.range (2^i+2^i)).map (DD S.a S.b D E)) (ET D (λ m=>CG (DD S.a S.b D E (2^i+m))) (2^i));have u9 : ∀ r:AV,r = .g8 [.agg (eQ (EP S (2^i))),.int .i64 0]->((∃ i,i<=6/\HA n S.a i/\r = .g8 [.agg (eQ (EP S (2^i))),.int .i64 0])\/((∀ j,j<=6->DJ (B2 n S.a j)=false)/\r = .g8 [.agg [.bool false,.sl false [],.sl false []],.int .i64 14])):=λ r hr=>Or.inl ⟨i,h1,h2,hr⟩
  clear wy xj blast bt l9 fe ke Fk pD pE pO;generalize EP S (2^i)=W at *;generalize ET D (λ j=>A4 (A3 (S.c.map (· * O)) (DD S.a S.b D E j))) (2^i+2^i)+BF (S.c.map (· * O))*ET D (λ m=>CG (DD S.a S.b D E (2^i+m))) (2^i)=U at *;generalize ET D (λ m=>CG (DD S.a S.b D E (2^i+m))) (2^i)=T at *;generalize (List.range (2^i+2^i)).map (DD S.a S.b D E)=Z at *;generalize D^(2^i+2^i-1)=P at *;generalize 2^i=p at *;(repeat' ((first|(apply AG<;>intro hc<;>try omega)|apply AP|refine GA rfl ?_|apply AE|refine AD (Ed) ?_|refine AD (ud) ?_|refine AD (ub) ?_|refine AD (oe) ?_|refine AD (Iq _) ?_|refine AD (Ip _) ?_|refine AD (hW) ?_)<;>conv=>whnf))
  refine pB Cz trivial ?_;rw[Dl];(conv=>whnf)
  (repeat' ((first|refine AD (hG _) ?_|refine AD (fp) ?_|refine AD (il) ?_|refine AD (Hu) ?_|refine AD (Fb) ?_|refine AD (Fc) ?_)<;>conv=>whnf))
  exact ⟨_,AW rfl (X6 _ 0),u9 _ rfl⟩
 ·(repeat' ((first|(apply AG<;>intro hc<;>try omega)|apply AP|apply AE|refine AD (Ed) ?_|refine AD (ud) ?_)<;>conv=>whnf))
  exact ⟨_,AW rfl (by simp [AZ,BS,EV]),Or.inr ⟨h1,rfl⟩⟩
theorem AfT (x:Rat):eQ (A4 x)=[.bool false,.sl false ((dg x.num.natAbs).map AL),.sl false ((dg x.den).map AL)]:=by
 unfold A4;by_cases h:x.num<0
 ·rw[if_pos h]
  show rQ false false (decide ((-x).num<0)) _ _=_;rw[Rat.neg_num,Int.natAbs_neg,Rat.neg_den,show decide (-x.num<0)=false from decide_eq_false (by omega)]
 ·rw[if_neg h]
  show rQ false false (decide (x.num<0)) _ _=_;rw[show decide (x.num<0)=false from decide_eq_false h]
theorem YR (N:x7 L) {x:Rat} {k:Nat} (hx:Bt k x) (hk:k<2199023255552):Ev L 309 [.agg (eQ x)] (.agg (eQ (A4 x))):=by
 have hT:=vK N.toa9 hx hk;have hs:=hx.mg hk;have hR:=λ q=>HC N.toa9 (dg x.num.natAbs) q (EF _) (by have:=hs.1.2;omega)
 rw[BQ]at hR;have hA : ∀ b q,Ev L 308 [.agg [.bool b,.sl q ((dg x.num.natAbs).map AL)]] (.agg [.bool false,.sl false ((dg x.num.natAbs).map AL)]):=λ b q=>by
  refine Ev.x N.OY rfl rfl ?_;(repeat' ((first|apply AE|refine AD (hR _) ?_)<;>conv=>whnf))
  exact AW rfl (qX _ _)
 have n6:=C3 (A4 x);rw[AfT]at n6 ⊢;refine Ev.x N.O9 rfl rfl ?_;(repeat' ((first|apply AE|refine AD (hT) ?_|refine AD (hA _ _) ?_)<;>conv=>whnf))
 exact AW rfl n6
theorem Ahb (N:x7 L) (q q':Bool) (a:List (List Rat)) (n:Nat) (hs:Sq n a) (hn:n<=16):Ev L 310 [.sl q (IB q' a)] (.bool true):=by
 have bp:=hs.l;refine Ev.x N.P2 rfl rfl ?_;(repeat' (apply AE<;>conv=>whnf))
 refine D4 (λ i=>a.length-i) (λ(i:Nat)=>i<=a.length) (λ i=>[(3,.int .i64 i)]) (λ_=>[]) 0 (by omega) ?_;intro i p1 ih;by_cases hi:i<a.length
 ·obtain ⟨r,hr⟩ : ∃ r,a[i]? = some r:=⟨_,zE hi⟩
  have ot:a[(i:Int).toNat]? = some r:=hr;have cg:=hs.at hr;(repeat' ((first|(apply AG<;>intro hc<;>try omega)|(apply AQ;omega)|apply AP|(refine A9 (by assumption) ?_ rfl ?_;omega)|apply AE)<;>conv=>whnf))
  exact BB [] (ih (i+1) (by omega) (by omega))
 obtain rfl:i=a.length:=by omega
 clear ih;(repeat' ((first|(apply AG<;>intro hc<;>try omega)|apply AP|apply AE)<;>conv=>whnf))
 exact FV rfl
theorem vB (N:x7 L) (q:Bool) (v:List Rat) (k:Nat) (hv:Bs k v) (hn:v.length<=1000) (hk:k<=1000000000):Ev L 311 [.sl q (v.map eQ)] (.agg (eQ (BF v))):=by
 have hO:=KH N.toa9 0 (by omega);rw[show ((0:Int):Rat)=0 from rfl]at hO;refine Ev.x N.PZ rfl rfl ?_;(repeat' ((first|apply AE|refine AD (hO) ?_)<;>conv=>whnf))
 refine D8 (λ i=>v.length-i) (λ(i:Nat)=>i<=v.length) (λ i=>[(4,.int .i64 i)]) (λ i=>[(3,3,.bx (eQ (BF (v.take i))))]) [] [] 0 (by rw[show BF (v.take 0)=0 from rfl];exact (by (conv=>whnf);exact ⟨rfl,rfl,rfl⟩)) (by omega) ?_;intro i p1 ih;by_cases hi:i<v.length
 ·obtain ⟨x,hx⟩ : ∃ x,v[i]? = some x:=⟨_,zE hi⟩
  have lf:v[(i:Int).toNat]? = some x:=hx;have hA:=YR N (hv.at hx) (by omega);have hz:Bt (1000*(k+1)) (BF (v.take i)):=(RJ (hv.take i)).le (zR _ (by rw[List.length_take];omega));have hP:=R7 N.toa9 hz (HU (hv.at hx)) (by omega) (by omega);rw[<-Nf hx]at hP;generalize BF (v.take i)=w at *;generalize A4 x=y at *;(repeat' ((first|(apply AG<;>intro hc<;>try omega)|(apply AQ;omega)|apply AP|(refine A9 (by assumption) ?_ rfl ?_;omega)|apply AE|refine AD (hA) ?_|refine AD (hP) ?_)<;>conv=>whnf))
  exact BB [] (ih (i+1) (by omega) (by omega))
 obtain rfl:i=v.length:=by omega
 clear ih;rw[zT (Nat.le_refl _)];(repeat' ((first|(apply AG<;>intro hc<;>try omega)|apply AP|apply AE)<;>conv=>whnf))
 exact AW rfl (C3 _)
theorem Ag5 (N:x7 L) (q:Bool) (v:List Rat) (k:Nat) (hv:Bs k v) (hn:v.length<=1000000) (hk:k<=1000000000000):Ev L 312 [.sl q (v.map eQ)] (.agg (eQ (CG v))):=by
 have hO:=KH N.toa9 0 (by omega);rw[show ((0:Int):Rat)=0 from rfl]at hO;refine Ev.x N.PV rfl rfl ?_;(repeat' ((first|apply AE|refine AD (hO) ?_)<;>conv=>whnf))
 refine D8 (λ i=>v.length-i) (λ(i:Nat)=>i<=v.length) (λ i=>[(4,.int .i64 i)]) (λ i=>[(3,3,.bx (eQ (CG (v.take i))))]) [] [] 0 (by rw[show CG (v.take 0)=0 from rfl];exact (by (conv=>whnf);exact ⟨rfl,rfl,rfl⟩)) (by omega) ?_;intro i p1 ih;by_cases hi:i<v.length
 ·obtain ⟨x,hx⟩ : ∃ x,v[i]? = some x:=⟨_,zE hi⟩
  have lf:v[(i:Int).toNat]? = some x:=hx;have hA:=YR N (hv.at hx) (by omega);have hC:=YM N.toa9 (HU (hv.at hx)) (Q9 (hv.take i)) (by omega) (by omega);have hg:=P8 (x:=A4 x) (y:=CG (v.take i));have hs:CG (v.take (i+1))=if CG (v.take i)<A4 x then A4 x else CG (v.take i):=wX hx
  by_cases h:CG (v.take i)<A4 x
  ·rw[if_pos h]at hs
   have h1:=hg.2 h;rw[<-hs]at hA hC h1;generalize o9 (CG (v.take (i+1))-CG (v.take i)).num=g at *;(repeat' ((first|(apply AG<;>intro hc<;>try omega)|(apply AQ;omega)|apply AP|(refine A9 (by assumption) ?_ rfl ?_;omega)|apply AE|refine AD (hA) ?_|refine AD (hC) ?_)<;>conv=>whnf))
   exact BB [] (ih (i+1) (by omega) (by omega))
  ·rw[if_neg h]at hs
   have h1 : ¬ 0<o9 (A4 x-CG (v.take i)).num:=λ e=>h (hg.1 e)
   rw[<-hs]at hC h1 ⊢;clear hg h hs;generalize o9 (A4 x-CG (v.take (i+1))).num=g at *;generalize A4 x=y at *;(repeat' ((first|(apply AG<;>intro hc<;>try omega)|(apply AQ;omega)|apply AP|(refine A9 (by assumption) ?_ rfl ?_;omega)|apply AE|refine AD (hA) ?_|refine AD (hC) ?_)<;>conv=>whnf))
   exact BB [] (ih (i+1) (by omega) (by omega))
 obtain rfl:i=v.length:=by omega
 clear ih;rw[zT (Nat.le_refl _)];(repeat' ((first|(apply AG<;>intro hc<;>try omega)|apply AP|apply AE)<;>conv=>whnf))
 exact AW rfl (C3 _)
theorem Ahc (N:x7 L) (q q':Bool) (a:List (List Rat)) (n kk:Nat) (hs:Sq n a) (ha:Ms kk a) (hn:n<=4) (hk:kk<=1000000000):Ev L 313 [.sl q (IB q' a)] (.sl false (eM (HF a a n))):=by
 have bp:=hs.l;have Cc:Sq n (HF a a n):=Sq.mul hs.l a;have Im : ∀ (i:Nat) (r:List Rat),a[i]? = some r->(HF a a n)[i]? = some (EZ r a n):=λ i r hr=>by rw[HF,List.getElem?_map,hr];rfl
 have Fj : ∀ (j:Nat) (r:List Rat),j<n->(EZ r a n)[j]? = some (A3 r (C9 a j)):=λ j r hj=>by rw[EZ,List.getElem?_map,List.getElem?_range hj];rfl
 have xx:=Cc.l;have Fi:=Cc.r;have hO:=KH N.toa9 0 (by omega);rw[show ((0:Int):Rat)=0 from rfl]at hO;generalize HF a a n=Q at *;refine Ev.x N.P3 rfl rfl ?_;(repeat' ((first|apply AP|apply AE)<;>conv=>whnf))
 unfold DP;refine ⟨⟨by omega,by omega,by simp only[FI];omega,by omega⟩,?_⟩;rw[Int.toNat_natCast,bp];(conv=>whnf)
 skip
 refine D8 (λ i=>n-i) (λ(i:Nat)=>i<=n) (λ i=>[(4,.int .i64 i)]) (λ i=>[(10,10,.mx (mz Q n i))]) [] [] 0 (by first|exact (by (conv=>whnf);exact ⟨rfl,rfl,rfl⟩)|(rw[<-mD Q];exact (by (conv=>whnf);exact ⟨rfl,rfl,rfl⟩))) (by omega) ?_;intro i p1 ih;have vh:=mB (Q:=Q) p1;by_cases hi:i<n
 ·obtain ⟨rr,hr⟩ : ∃ r,a[i]? = some r:=⟨_,zE (by omega)⟩
  have ot:a[(i:Int).toNat]? = some rr:=hr;have cg:=hs.at hr;have mb:=ha.at hr;have hq:=Im i rr hr;have k7:=mC hq hi;have rm:(mz Q n i)[i]? = some none:=Ajk xx hi;have Kr:(EZ rr a n).length=n:=Fi _ (zM hq);have rp:(EZ rr a n).take 1=[A3 rr (C9 a 0)]:=by
   rw[I0 (Fj 0 rr (by omega))];rfl
  have hqj : ∀ j,j<n->(EZ rr a n).take (j+1)=(EZ rr a n).take j++[A3 rr (C9 a j)]:=λ j hj=>I0 (Fj j rr hj)
  generalize mz Q n i=R0 at *;generalize EZ rr a n=qr at *;(repeat' ((first|(apply AG<;>intro hc<;>try omega)|apply AP|apply AE)<;>conv=>whnf))
  refine GJ ?_;(repeat' ((first|(apply AG<;>intro hc<;>try omega)|apply AP|apply AE|refine AD (hO) ?_)<;>conv=>whnf))
  refine D8 (λ k=>n-k) (λ(k:Nat)=>k<=n) (λ k=>[(7,.int .i64 k)]) (λ k=>[(6,6,.bx (eQ (A3 (rr.take k) ((C9 a 0).take k))))]) [] [] 0 (by rw[show A3 (rr.take 0) ((C9 a 0).take 0)=0 from rfl];exact (by (conv=>whnf);exact ⟨rfl,rfl,rfl⟩)) (by omega) ?_;intro k t1 kh;by_cases iv:k<n
  ·obtain ⟨x,hx⟩ : ∃ x,rr[k]? = some x:=⟨_,zE (by omega)⟩
   obtain ⟨s,fb⟩ : ∃ s,a[k]? = some s:=⟨_,zE (by omega)⟩;have Gu:=hs.at fb;obtain ⟨y,hy⟩ : ∃ y,s[0]? = some y:=⟨_,zE (by omega)⟩;have lf:rr[(k:Int).toNat]? = some x:=hx;have po:a[(k:Int).toNat]? = some s:=fb;have xd:s[((0:Nat):Int).toNat]? = some y:=hy;have Jp:=rN fb hy;have hM:=UQ N.toa9 (mb.at hx) ((ha.at fb).at hy) (by omega) (by omega);have hd:Bt (4*(kk+kk+1)) (A3 (rr.take k) ((C9 a 0).take k)):=((mb.take k).dot ((Ms.Hm ha 0).take k)).le (zR _ (by rw[List.length_take];omega));have hA:=R7 N.toa9 hd ((mb.at hx).mul ((ha.at fb).at hy)) (by omega) (by omega);rw[<-YH hx Jp]at hA;generalize A3 (rr.take k) ((C9 a 0).take k)=w at *;generalize x*y=p at *;(repeat' ((first|(apply AG<;>intro hc<;>try omega)|(apply AQ;omega)|apply AP|(refine A9 (by assumption) ?_ rfl ?_;omega)|apply AE|refine AD (hM) ?_|refine AD (hA) ?_)<;>conv=>whnf))
   exact BB [] (kh (k+1) (by omega) (by omega))
  have ek:k=n:=by omega
  clear kh;rw[ek,cC cg];generalize A3 rr (C9 a 0)=y0 at *;(repeat' ((first|(apply AG<;>intro hc<;>try omega)|(apply A2;omega)|apply AP|apply AE)<;>conv=>whnf))
  refine aH (r:=none) (by rw[Nat.zero_add,Int.toNat_natCast];exact rm) ?_;(conv=>whnf)
  (repeat' (apply DQ<;>conv=>whnf))
  refine SY (enc:=eQ) y0 rfl rfl (by omega) ?_;(conv=>whnf)
  (repeat' ((first|(apply A2;omega)|fail)<;>conv=>whnf))
  refine A2 rfl ?_;refine XZ (i:=i) (by omega) (by omega) ?_;(conv=>whnf)
  (repeat' ((first|(apply AQ;omega)|fail)<;>conv=>whnf))
  refine D8 (λ j=>n-j) (λ(j:Nat)=>1<=j/\j<=n) (λ j=>[(5,.int .i64 j)]) (λ j=>[(10,10,.mx (R0.set i (some (3,(qr.take j).map eQ))))]) [] [] 1 (by first|exact (by (conv=>whnf);exact ⟨rfl,rfl,rfl⟩)|(rw[rp];exact (by (conv=>whnf);exact ⟨rfl,rfl,rfl⟩))) (by omega) ?_;intro j ⟨r1,r2⟩ jh;have htj:(qr.take j).length=j:=by rw[List.length_take];omega
  by_cases hj:j<n
  ·have uy:=hqj j hj
   have zp:(qr.take (j+1)).length=j+1:=by rw[List.length_take];omega
   generalize qr.take j=W at *;(repeat' ((first|(apply AG<;>intro hc<;>try omega)|apply AP|apply AE|refine AD (hO) ?_)<;>conv=>whnf))
   refine D8 (λ k=>n-k) (λ(k:Nat)=>k<=n) (λ k=>[(7,.int .i64 k)]) (λ k=>[(6+1000000,6,.bx (eQ (A3 (rr.take k) ((C9 a j).take k))))]) [] [] 0 (by rw[show A3 (rr.take 0) ((C9 a j).take 0)=0 from rfl];exact (by (conv=>whnf);exact ⟨rfl,rfl,rfl⟩)) (by omega) ?_;intro k t1 kh;by_cases iv:k<n
   ·obtain ⟨x,hx⟩ : ∃ x,rr[k]? = some x:=⟨_,zE (by omega)⟩
    obtain ⟨s,fb⟩ : ∃ s,a[k]? = some s:=⟨_,zE (by omega)⟩;have Gu:=hs.at fb;obtain ⟨y,hy⟩ : ∃ y,s[j]? = some y:=⟨_,zE (by omega)⟩;have lf:rr[(k:Int).toNat]? = some x:=hx;have po:a[(k:Int).toNat]? = some s:=fb;have xd:s[((j:Nat):Int).toNat]? = some y:=hy;have Jp:=rN fb hy;have hM:=UQ N.toa9 (mb.at hx) ((ha.at fb).at hy) (by omega) (by omega);have hd:Bt (4*(kk+kk+1)) (A3 (rr.take k) ((C9 a j).take k)):=((mb.take k).dot ((Ms.Hm ha j).take k)).le (zR _ (by rw[List.length_take];omega));have hA:=R7 N.toa9 hd ((mb.at hx).mul ((ha.at fb).at hy)) (by omega) (by omega);rw[<-YH hx Jp]at hA;generalize A3 (rr.take k) ((C9 a j).take k)=w at *;generalize x*y=p at *;(repeat' ((first|(apply AG<;>intro hc<;>try omega)|(apply AQ;omega)|apply AP|(refine A9 (by assumption) ?_ rfl ?_;omega)|apply AE|refine AD (hM) ?_|refine AD (hA) ?_)<;>conv=>whnf))
    exact BB [] (kh (k+1) (by omega) (by omega))
   have ek:k=n:=by omega
   clear kh;rw[ek,cC cg];generalize A3 rr (C9 a j)=y0 at *;(repeat' ((first|(apply AG<;>intro hc<;>try omega)|(apply A2;omega)|apply AP|apply AE)<;>conv=>whnf))
   refine pH (by omega) (by omega) ?_;(conv=>whnf)
   (repeat' (apply DQ<;>conv=>whnf))
   refine pG (by omega) (by omega) ?_;(conv=>whnf)
   refine FA (enc:=eQ) y0 rfl (by rw[List.length_map]) rfl (by omega) (by omega) ?_;intro s' v;rw[<-uy,zp];(conv=>whnf)
   (repeat' ((first|(apply A2;omega)|fail)<;>conv=>whnf))
   refine A2 ⟨rfl,by rw[List.length_map];omega⟩ ?_;refine XZ (i:=i) (by omega) (by rw[List.length_set,List.length_set];omega) ?_;rw[show 0+((i:Int)).toNat=i by omega,List.set_set,List.set_set];(conv=>whnf)
   (repeat' ((first|(apply AQ;omega)|fail)<;>conv=>whnf))
   exact BB [] (jh (j+1) (by omega) (by omega))
  have ej:j=n:=by omega
  clear jh;rw[ej,zT (by omega),k7];(repeat' ((first|(apply AG<;>intro hc<;>try omega)|(apply AQ;omega)|apply AP|apply AE)<;>conv=>whnf))
  exact BB [] (ih (i+1) (by omega) (by omega))
 have ei:i=n:=by omega
 clear ih;rw[ei,mA (by omega)];(repeat' ((first|(apply AG<;>intro hc<;>try omega)|apply AP|apply AE)<;>conv=>whnf))
 refine QQ (λ_=>rfl) rfl (by omega) ?_;(conv=>whnf)
 exact AW rfl (qY Q)
theorem AkQ {n k:Nat} {a:List (List Rat)} (hs:Sq n a) (ha:Ms k a) (hn:n<=4) (hk:k<=100000) (i:Nat) (hi:i<=7):Ms 300000000 (B2 n a i):=by
 obtain ⟨D,_,d1,d2,d3⟩:=ZX hs ha;have ur:n*n<=4*4:=Nat.mul_le_mul hn hn;have yz:n*n*k<=16*k:=zR k ur;have hw:=fJ hs hn d3 i;have hwk:=Oz (k:=k) i hi;have h2:2^i<=2^7:=Nat.pow_le_pow_right (by omega) hi;have hdd:D^2^i<=2^(2^i*(16*k)):=by
  have h3:D<=2^(16*k):=Nat.le_trans d2 (Nat.pow_le_pow_right (by omega) yz);have:=Nat.pow_le_pow_left h3 (2^i)
  rwa [<-Nat.pow_mul,Nat.mul_comm]at this
 have h4:2^i*(16*k)<=300000000:=Nat.le_trans (zR (16*k) h2) (by omega);have h5:FR k i<=300000000:=by omega
 intro r hr x hx;generalize 300000000=K at *;refine qM (S:=D^2^i) (Nat.pow_pos d1) (Nat.le_trans hdd (Nat.pow_le_pow_right (by omega) h4)) ?_;have:=hw (r.map (· * DU (D:Rat) i)) (List.mem_map.2 ⟨r,hr,rfl⟩) _ (List.mem_map.2 ⟨x,hx,rfl⟩)
 rw[sH]at this;exact this.le h5
theorem vA (N:x7 L) (q q':Bool) (a:List (List Rat)) (n k:Nat) (hs:Sq n a) (ha:Ms k a) (hn:n<=4) (hk:k<=100000) :
  ∃ v,Ev L 314 [.sl q (IB q' a)] v/\((∃ i,i<=6/\HA n a i/\v = .g8 [.int .i64 ((2^i:Nat):Int),.int .i64 0])\/((∀ j,j<=6->DJ (B2 n a j)=false)/\v = .g8 [.int .i64 0,.int .i64 14])):=by
 have bp:=hs.l;have hq:=Ahb N q q' a n hs (by omega);have hF:=cL N.toa9 1 2 (by omega) (by omega);have hb : ∀ i,i<=7->Ms 300000000 (B2 n a i):=λ i hi=>AkQ hs ha hn hk i hi
 have hZ:=λ(i:Nat) (q q':Bool) (hi:i<=6)=>Ahc N q q' (B2 n a i) n 300000000 (TT hs i) (hb i (by omega)) hn (by omega)
 have hh:Bt 2 (Rat.divInt 1 2):=Bt.mk (k:=2) (z:=1) (d:=2) (by decide) (by decide);have Gf:Rat.divInt 1 2=1/2:=by decide +kernel
 have hC : ∀ i r,i<=6->r∈B2 n a i->Ev L 127 [.agg (eQ (BF r)),.agg (eQ (Rat.divInt 1 2))] (.int .i64 (o9 (BF r-1/2).num)):=λ i r hi hr=>by
  have hz:Bt (4*(300000000+1)) (BF r):=(RJ (hb i (by omega) r hr)).le (zR _ (by rw[(TT hs i).r r hr];exact hn));have:=YM N.toa9 hz hh (by omega) (by omega)
  rwa [Gf]at this ⊢
 refine Ev.xE N.PX rfl rfl ?_;(repeat' ((first|apply AE|refine AD (hq) ?_)<;>conv=>whnf))
 refine FU (λ i _=>7-i) (λ(i:Nat) (fl:Bool)=>i<=7/\(fl=true->i=0) /\ ∀ j,j<i->DJ (B2 n a j)=false) (λ i fl=>[(4,.int .i64 ((2^i:Nat):Int)),(0,bif fl then .sl q (IB q' a) else .sl false (eM (B2 n a i)))]) (λ_ _=>[]) 0 true ⟨by omega,λ_=>rfl,λ j hj=>absurd hj (by omega)⟩ ?_;intro i fl ⟨p1,p2,p3⟩ ih;by_cases h7:i=7
 ·have e7:((2^i:Nat):Int)=128:=by rw[h7];rfl
  rw[e7];have mn : ∀ j,j<=6->DJ (B2 n a j)=false:=λ j hj=>p3 j (by omega)
  (repeat' ((first|(apply AG<;>intro hc<;>try omega)|apply AE)<;>conv=>whnf))
  exact ⟨_,AW rfl (by simp [AZ,BS]),Or.inr ⟨mn,rfl⟩⟩
 obtain ⟨g1,g2,g3⟩:=RE (i:=i) (by omega);have pj:((2^(i+1):Nat):Int)=2*((2^i:Nat):Int):=by rw[Nat.pow_succ];omega
 have Gu:=(TT hs i).l;have qw:DJ (B2 n a i)=true->HA n a i:=λ h=>⟨h,p3⟩
 have ah:DJ (B2 n a i)=false -> ∀ j,j<i+1->DJ (B2 n a j)=false:=λ h j hj=>by
  by_cases e:j=i
  ·rw[e];exact h
  ·exact p3 j (by omega)
 have Hs:=λ r=>hC i r (by omega)
 have Iv:=λ q q'=>hZ i q q' (by omega)
 have Ch:=λ q r (hr:r∈B2 n a i)=>vB N q r 300000000 (hb i (by omega) r hr) (by rw[(TT hs i).r r hr];omega) (by omega)
 have u9 : ∀ r:AV,HA n a i->r = .g8 [.int .i64 ((2^i:Nat):Int),.int .i64 0]->((∃ i,i<=6/\HA n a i/\r = .g8 [.int .i64 ((2^i:Nat):Int),.int .i64 0])\/((∀ j,j<=6->DJ (B2 n a j)=false)/\r = .g8 [.int .i64 0,.int .i64 14])):=λ r h hr=>Or.inl ⟨i,by omega,h,hr⟩
 have js : ∀ (m:Nat) (r:List Rat),(B2 n a i)[m]? = some r->DJ ((B2 n a i).take (m+1))=(DJ ((B2 n a i).take m)&&decide (BF r<=1/2)):=λ m r hr=>by
  rw[I0 hr,DJ,DJ,List.all_append];simp
 cases fl
 ·skip
  generalize 2^i=P at *;(repeat' ((first|(apply AG<;>intro hc<;>try omega)|apply AE)<;>conv=>whnf))
  refine FU (λ m _=>n-m) (λ(m:Nat) (b:Bool)=>m<=n/\b=DJ ((B2 n a i).take m)) (λ m b=>[(6,.int .i64 m),(5,.bool b)]) (λ_ _=>[]) 0 true ⟨by omega,rfl⟩ ?_;intro m b ⟨r1,r2⟩ mh;by_cases hm:m<n
  ·obtain ⟨r,hr⟩ : ∃ r,(B2 n a i)[m]? = some r:=⟨_,zE (by omega)⟩
   have ot:(B2 n a i)[(m:Int).toNat]? = some r:=hr;have je:=zM hr;have ht:=js m r hr;rw[<-r2]at ht;cases b
   ·(repeat' ((first|(apply AG<;>intro hc<;>try omega)|(apply AQ;omega)|apply AP|apply AE)<;>conv=>whnf))
    exact BB [] (mh (m+1) false (by omega) ⟨by omega,by rw[ht];rfl⟩)
   ·have ta:=λ q=>Ch q r je
    have nk:=Hs r je;have hg:=P8 (x:=BF r) (y:=1/2);by_cases h:BF r<=1/2
    ·have h1 : ¬ 0<o9 (BF r-1/2).num:=λ e=>by have:=hg.1 e;grind
     rw[decide_eq_true h]at ht;clear hg;generalize o9 (BF r-1/2).num=g at *;(repeat' ((first|(apply AG<;>intro hc<;>try omega)|(apply AQ;omega)|apply AP|(refine A9 (by assumption) ?_ rfl ?_;omega)|apply AE|refine AD (ta _) ?_|refine AD (hF) ?_|refine AD (nk) ?_)<;>conv=>whnf))
     exact BB [] (mh (m+1) true (by omega) ⟨by omega,by rw[ht];rfl⟩)
    ·have h1:0<o9 (BF r-1/2).num:=hg.2 (by grind)
     rw[decide_eq_false h]at ht;clear hg;generalize o9 (BF r-1/2).num=g at *;(repeat' ((first|(apply AG<;>intro hc<;>try omega)|(apply AQ;omega)|apply AP|(refine A9 (by assumption) ?_ rfl ?_;omega)|apply AE|refine AD (ta _) ?_|refine AD (hF) ?_|refine AD (nk) ?_)<;>conv=>whnf))
     exact BB [] (mh (m+1) false (by omega) ⟨by omega,by rw[ht];rfl⟩)
  have em:m=n:=by omega
  clear mh;rw[em,zT (by omega)]at r2;cases b
  ·(repeat' ((first|(apply AG<;>intro hc<;>try omega)|(apply FW;omega)|apply AP|apply AE|refine AD (Iv _ _) ?_)<;>conv=>whnf))
   rw[<-pj];exact BB [] (ih (i+1) false (by omega) ⟨by omega,(λ h=>by cases h),ah r2.symm⟩)
  ·(repeat' ((first|(apply AG<;>intro hc<;>try omega)|apply AP|apply AE)<;>conv=>whnf))
   exact ⟨_,AW rfl (by simp [AZ,BS]),u9 _ (qw r2.symm) rfl⟩
 ·obtain rfl:=p2 rfl
  have e0:B2 n a 0=a:=rfl;rw[e0]at qw ah Hs Iv Ch js Gu;generalize 2^0=P at *;(repeat' ((first|(apply AG<;>intro hc<;>try omega)|apply AE)<;>conv=>whnf))
  refine FU (λ m _=>n-m) (λ(m:Nat) (b:Bool)=>m<=n/\b=DJ (a.take m)) (λ m b=>[(6,.int .i64 m),(5,.bool b)]) (λ_ _=>[]) 0 true ⟨by omega,rfl⟩ ?_;intro m b ⟨r1,r2⟩ mh;by_cases hm:m<n
  ·obtain ⟨r,hr⟩ : ∃ r,a[m]? = some r:=⟨_,zE (by omega)⟩
   have ot:a[(m:Int).toNat]? = some r:=hr;have je:=zM hr;have ht:=js m r hr;rw[<-r2]at ht;cases b
   ·(repeat' ((first|(apply AG<;>intro hc<;>try omega)|(apply AQ;omega)|apply AP|apply AE)<;>conv=>whnf))
    exact BB [] (mh (m+1) false (by omega) ⟨by omega,by rw[ht];rfl⟩)
   ·have ta:=λ q=>Ch q r je
    have nk:=Hs r je;have hg:=P8 (x:=BF r) (y:=1/2);by_cases h:BF r<=1/2
    ·have h1 : ¬ 0<o9 (BF r-1/2).num:=λ e=>by have:=hg.1 e;grind
     rw[decide_eq_true h]at ht;clear hg;generalize o9 (BF r-1/2).num=g at *;(repeat' ((first|(apply AG<;>intro hc<;>try omega)|(apply AQ;omega)|apply AP|(refine A9 (by assumption) ?_ rfl ?_;omega)|apply AE|refine AD (ta _) ?_|refine AD (hF) ?_|refine AD (nk) ?_)<;>conv=>whnf))
     exact BB [] (mh (m+1) true (by omega) ⟨by omega,by rw[ht];rfl⟩)
    ·have h1:0<o9 (BF r-1/2).num:=hg.2 (by grind)
     rw[decide_eq_false h]at ht;clear hg;generalize o9 (BF r-1/2).num=g at *;(repeat' ((first|(apply AG<;>intro hc<;>try omega)|(apply AQ;omega)|apply AP|(refine A9 (by assumption) ?_ rfl ?_;omega)|apply AE|refine AD (ta _) ?_|refine AD (hF) ?_|refine AD (nk) ?_)<;>conv=>whnf))
     exact BB [] (mh (m+1) false (by omega) ⟨by omega,by rw[ht];rfl⟩)
  have em:m=n:=by omega
  clear mh;rw[em,zT (by omega)]at r2;cases b
  ·(repeat' ((first|(apply AG<;>intro hc<;>try omega)|(apply FW;omega)|apply AP|apply AE|refine AD (Iv _ _) ?_)<;>conv=>whnf))
   rw[<-pj];exact BB [] (ih (0+1) false (by omega) ⟨by omega,(λ h=>by cases h),ah r2.symm⟩)
  ·(repeat' ((first|(apply AG<;>intro hc<;>try omega)|apply AP|apply AE)<;>conv=>whnf))
   exact ⟨_,AW rfl (by simp [AZ,BS]),u9 _ (qw r2.symm) rfl⟩
theorem Z4 {k:Nat} {f:Nat->Rat} : ∀ m,(∀ j,j<m->Bt k (f j))->Bt (m*(k+1)) (B4 f m)
 | 0,_=>Bt.zero _
 | m+1,h=>by
  have h1:=Z4 m λ j hj=>h j (by omega)
  refine (h1.add (h m (by omega))).le ?_;rw[Nat.succ_mul];omega
def KN (S:FE) (p k:Nat):Rat:=A4 S.d+(B4 (GV S.a S.b S.c) k+BF S.c*B4 (λ j=>GE S.a S.b (p+j)) (k-p))
theorem Ak9 {S:FE} {p k:Nat} (h:k<p):KN S p k+GV S.a S.b S.c k=KN S p (k+1):=by
 rw[KN,KN,show k+1-p=0 by omega,show k-p=0 by omega];simp only[B4];grind
theorem Ak8 {S:FE} {p k:Nat} (h:p<=k):KN S p k+GV S.a S.b S.c k+BF S.c*CG (C6 S.a S.b k)=KN S p (k+1):=by
 rw[KN,KN,show k+1-p=(k-p)+1 by omega];have e:GE S.a S.b (p+(k-p))=CG (C6 S.a S.b k):=by rw[show p+(k-p)=k by omega];rfl
 simp only[B4,e];grind
theorem Ak7 (S:FE) (p:Nat):KN S p (p+p)=EP S p:=by rw[KN,EP,show p+p-p=p by omega]
theorem Ahd (N:x7 L) (S:FE) (n k:Nat) (hS:S.Ok n k) (hn:n<=4) (hk:k<=40000) :
  ∃ v,Ev L 315 [.agg (eS S)] v/\((∃ i,i<=6/\HA n S.a i/\v = .g8 [.agg (eQ (EP S (2^i))),.int .i64 0])\/((∀ j,j<=6->DJ (B2 n S.a j)=false)/\v = .g8 [.agg [.bool false,.sl false [],.sl false []],.int .i64 14])):=by
 have Ed:=Agj N.tov8 S n k hS (by omega);have Aq:=hS.la;have Ar:=hS.lb;have ia:=hS.lc;have tc:Sq n S.a:=⟨hS.la,hS.lr⟩;obtain ⟨v,hP,hv⟩:=vA N false false S.a n k tc hS.ba hn (by omega);refine Ev.xE N.P0 rfl rfl ?_;rcases hv with ⟨i,h1,h2,rfl⟩|⟨h1,rfl⟩
 ·obtain ⟨g1,_,g3⟩:=RE h1
  have Fc:=YR N hS.bd (by omega);have u9 : ∀ r:AV,r = .g8 [.agg (eQ (EP S (2^i))),.int .i64 0]->((∃ i,i<=6/\HA n S.a i/\r = .g8 [.agg (eQ (EP S (2^i))),.int .i64 0])\/((∀ j,j<=6->DJ (B2 n S.a j)=false)/\r = .g8 [.agg [.bool false,.sl false [],.sl false []],.int .i64 14])):=λ r hr=>Or.inl ⟨i,h1,h2,hr⟩
  have mr:=Ak7 S (2^i);generalize 2^i=p at *;have ti : ∀ j,j<=128->Bs 90000000 (C6 S.a S.b j):=λ j hj=>(Qc tc hS.lb hS.ba hS.bb j).le (by have:=oR (n:=n) (k:=k) hn hj;omega)
  have gp : ∀ j,(C6 S.a S.b j).length=n:=XJ Aq Ar;have y7 : ∀ j,j<=128->Bt (4*(k+90000000+1)) (A3 S.c (C6 S.a S.b j)):=λ j hj=>(hS.bc.dot (ti j hj)).le (zR _ (by omega))
  have fe:Bt (4*(k+1)) (BF S.c):=(RJ hS.bc).le (zR _ (by omega));have Sp : ∀ j,j<=128->Bt 100000000000 (KN S p j):=λ j hj=>by
   have q1:=(Z4 (f:=GV S.a S.b S.c) (k:=370000000) j λ t ht=>(HU (y7 t (by omega))).le (by omega)).le (zR _ hj);have q2:=(Z4 (f:=λ t=>GE S.a S.b (p+t)) (k:=90000000) (j-p) λ t ht=>Q9 (ti (p+t) (by omega))).le (zR _ (show j-p<=128 by omega));exact ((HU hS.bd).add (q1.add (fe.mul q2))).le (by omega)
  have Ch:=λ q=>vB N q S.c k hS.bc (by omega) (by omega)
  have nr:KN S p 0=A4 S.d:=by rw[KN,show 0-p=0 by omega];simp only[B4];grind
  (repeat' ((first|(apply AG<;>intro hc<;>try omega)|apply AP|apply AE|refine AD (Ed) ?_|refine AD (hP) ?_|refine AD (Fc) ?_)<;>conv=>whnf))
  refine D8 (λ j=>p+p-j) (λ(j:Nat)=>j<=p+p) (λ j=>[(8,.int .i64 j),(7,.sl false ((C6 S.a S.b j).map eQ))]) (λ j=>[(6,6,.bx (eQ (KN S p j)))]) [] [] 0 (by rw[nr];exact (by (conv=>whnf);exact ⟨rfl,rfl,rfl⟩)) (by omega) ?_;intro j t1 jh;by_cases hj:j<p+p
  ·have hI:=λ q q'=>tS N.tov8 S.c (C6 S.a S.b j) q q' k 90000000 (by rw[gp];exact ia) hS.bc (ti j (by omega)) (by rw[ia];have:=zR (k+90000000+1) hn;omega) (by omega)
   have hA:=YR N (y7 j (by omega)) (by omega);have Ik:=R7 N.toa9 (Sp j (by omega)) (HU (y7 j (by omega))) (by omega) (by omega);have hT:=λ q1 q2 q3=>Agk N.tov8 S.a (C6 S.a S.b j) q1 q2 q3 n k 90000000 tc (gp j) hS.ba (ti j (by omega)) hn (by omega)
   have Te : ∀ q1 q2 q3,Ev L 138 [.sl q1 (IB q3 S.a),.sl q2 ((C6 S.a S.b j).map eQ)] (.sl false ((C6 S.a S.b (j+1)).map eQ)):=hT;clear hT;by_cases Kc:p<=j
   ·have hG:=λ q=>Ag5 N q (C6 S.a S.b j) 90000000 (ti j (by omega)) (by rw[gp];omega) (by omega)
    have hM:=UQ N.toa9 fe (Q9 (ti j (by omega))) (by omega) (by omega);have hs:=Ak8 (S:=S) Kc;have hf:GV S.a S.b S.c j=A4 (A3 S.c (C6 S.a S.b j)):=rfl;rw[hf]at hs;have Fh:=R7 N.toa9 ((Sp j (by omega)).add (HU (y7 j (by omega)))) (fe.mul (Q9 (ti j (by omega)))) (by omega) (by omega);rw[hs]at Fh;(repeat' ((first|(apply AG<;>intro hc<;>try omega)|(apply AQ;omega)|(apply FW;omega)|apply AE|refine AD (hI _ _) ?_|refine AD (hA) ?_|refine AD (Ik) ?_|refine AD (Ch _) ?_|refine AD (hG _) ?_|refine AD (hM) ?_|refine AD (Fh) ?_|refine AD (Te _ _ _) ?_)<;>conv=>whnf))
    exact BB [] (jh (j+1) (by omega) (by omega))
   ·have hs:=Ak9 (S:=S) (p:=p) (k:=j) (by omega)
    have hf:GV S.a S.b S.c j=A4 (A3 S.c (C6 S.a S.b j)):=rfl;rw[hf]at hs;rw[hs]at Ik;(repeat' ((first|(apply AG<;>intro hc<;>try omega)|(apply AQ;omega)|(apply FW;omega)|apply AE|refine AD (hI _ _) ?_|refine AD (hA) ?_|refine AD (Ik) ?_|refine AD (Te _ _ _) ?_)<;>conv=>whnf))
    exact BB [] (jh (j+1) (by omega) (by omega))
  have ej:j=p+p:=by omega
  clear jh;rw[ej,mr];(repeat' ((first|(apply AG<;>intro hc<;>try omega)|(apply FW;omega)|apply AE)<;>conv=>whnf))
  exact ⟨_,AW rfl (X6 _ 0),u9 _ rfl⟩
 ·(repeat' ((first|(apply AG<;>intro hc<;>try omega)|apply AP|apply AE|refine AD (Ed) ?_|refine AD (hP) ?_)<;>conv=>whnf))
  exact ⟨_,AW rfl (by simp [AZ,BS,EV]),Or.inr ⟨h1,rfl⟩⟩
theorem Bt.ngK {k:Nat} {x:Rat} (h:Bt k x):Bt k (-x):=⟨by simpa using h.1,by simpa using h.2⟩
theorem AhS:Bt 4 (Rat.divInt 1 2):=(Bt.mk (k:=4) (z:=1) (d:=2) (by decide) (by decide))
theorem Agw (N:fo L):Ev L 318 [] (.bool true):=by
 have A:o8 L:=N.tom4.toy6.too8;have hO:=KH A.toa9 1 (by omega);have hO2:=KH A.toa9 2 (by omega);have hF:=cL A.toa9 1 2 (by omega) (by omega);have hh:=AhS;have l9 : -(Rat.divInt 1 2)≠0:=by decide
 have Cv:DJ (B2 1 [[Rat.divInt 1 2]] 0)=true:=by decide +kernel
 have hval:EP ⟨[[Rat.divInt 1 2]],[1],[Rat.divInt 1 2],1⟩ (2^0)=((2:Int):Rat):=by decide +kernel
 generalize Rat.divInt 1 2=h at *;have hN:=AgI A.tocu hh (by omega);have hA:Bs 4 [1,-h]:=λ x hx=>by
  rcases List.mem_cons.1 hx with rfl|hx
  ·exact Bt.one 4
  ·obtain rfl:=List.mem_singleton.1 hx
   exact hh.ngK
 have hB:Bs 4 [(1:Rat)]:=λ x hx=>by
  obtain rfl:=List.mem_singleton.1 hx;exact Bt.one 4
 have tB:RP [(1:Rat)]=[1]:=by decide
 have tA:RP [1,-h]=[1,-h]:=by
  show List.take (if -h=0 then _ else 2) [1,-h]=_;rw[if_neg l9];rfl
 have hC:=Agd A true true [1] [1,-h] 1 4 tB tA hB hA (by simp) (by simp) rfl rfl (by omega);have j7:(⟨[[h]],[1],[h],1⟩:FE).Ok 1 80:=by
  refine ⟨rfl,λ r hr=>by obtain rfl:=List.mem_singleton.1 hr;rfl,rfl,rfl,λ r hr => ?_,hB.le (by omega),λ x hx => ?_,Bt.one 80⟩
  ·obtain rfl:=List.mem_singleton.1 hr
   intro x hx;obtain rfl:=List.mem_singleton.1 hx;exact hh.le (by omega)
  ·obtain rfl:=List.mem_singleton.1 hx
   exact hh.le (by omega)
 have e:GD [1] [1,-h] 1=⟨[[h]],[1],[h],1⟩:=by
  have:GD [1] [1,-h] 1=⟨[[- -h]],[1],[0-1 * -h],1⟩:=rfl
  rw[this,Rat.neg_neg,show 0-1 * -h=h by grind]
 rw[e]at hC;obtain ⟨v,hS,hv⟩:=AgS N.tom4 ⟨[[h]],[1],[h],1⟩ 1 80 j7 (by omega) (by omega);rcases hv with ⟨i,_,h2,rfl⟩|⟨h1,rfl⟩
 ·obtain rfl:i=0:=h2.uniq ⟨Cv,λ j hj=>absurd hj (by omega)⟩
  rw[hval]at hS;have Rt:Bt 2 ((2:Int):Rat):=⟨by decide,by decide⟩;have lu:=YM A.toa9 Rt Rt (by omega) (by omega);rw[Mz.2 rfl]at lu;refine Ev.x N.MU rfl rfl ?_;(repeat' ((first|(apply AG<;>intro hc<;>try omega)|refine GA rfl ?_|refine J9 rfl rfl ?_|apply AE|refine AD (hO) ?_|refine AD (hF) ?_|refine AD (hN) ?_|refine AD (hC) ?_|refine AD (hS) ?_|refine AD (hO2) ?_|refine AD (lu) ?_)<;>conv=>whnf))
  exact FV rfl
 ·have:=h1 0 (by omega)
  rw[Cv]at this;cases this
end Go.c6

namespace Go.c6
theorem LX {es:List (List AV)} {i j n:Nat} {K:List AV->Prop} {cs ds:List AV} (h:es[i]? = some cs) (hp:part cs j n=some ds) (hk:K ds):BA es i j n K:=by
 unfold BA;exact ⟨cs,ds,h,hp,hk⟩
theorem S4 {es:List (List AV)} {i j:Nat} {vs cs:List AV} {K:List (List AV)->Prop} (h:es[i]? = some cs) (hl:Nat.ble (j+vs.length) cs.length=true) (hk:K (es.set i (splice cs j vs))):A6 es i j vs K:=by
 unfold A6;exact ⟨cs,h,Nat.le_of_ble_eq_true hl,hk⟩
theorem S3 {es:List (List AV)} {off len:Nat} {K:List (List AV)->Prop} (h:Nat.ble (off+len) es.length=true) (hz:es.all GG=true) (hk:K ((es.drop off).take len)):AY es off len K :=
 X0 (Nat.le_of_ble_eq_true h) (λ e he=>List.all_eq_true.1 hz e he) hk
theorem gM {es:List (List AV)} {K:Nat->Prop} (n:Nat) (hn:es.length=n) (h:K n):AM es K:=⟨hn ▸ h⟩
theorem E1 {rows:List (Option (Nat × List (List AV)))} {len bytes:Nat} {r:Option (Nat × List (List AV))} {K:List (Option (Nat × List (List AV)))->Nat->Prop} (n:Nat) (hn:n=len+1) (hl:len=rows.length) (hr:Nat.ble (n*bytes) 140737488355328=true) (af:Nat.ble n 9223372036854775807=true) (h:K (rows++[r]) n):BT rows len r bytes K:=by
 subst hn;exact ⟨hl,by simpa [FI] using Nat.le_of_ble_eq_true hr,Nat.le_of_ble_eq_true af,h⟩
theorem I1 {es ys:List (List AV)} {len z bytes:Nat} {K:List (List AV)->Nat->Prop} (n:Nat) (hn:n=len+ys.length) (hl:Nat.ble len es.length=true) (hz:ys.all (λ e=>Nat.beq e.length z)=true) (hr:Nat.ble (n*bytes) 140737488355328=true) (af:Nat.ble n 9223372036854775807=true) (h:K (es.take len++ys) n):BH es len ys z bytes K:=by
 subst hn;exact ⟨Nat.le_of_ble_eq_true hl,λ e he=>Nat.eq_of_beq_eq_true (List.all_eq_true.1 hz e he),by simpa [FI] using Nat.le_of_ble_eq_true hr,Nat.le_of_ble_eq_true af,h⟩
theorem Zr {β:Type} {rows:List (Option (Nat × List (List AV)))} {z:Nat} {en:β->List AV} {q:Bool} {off len:Nat} {K:List (List AV)->Prop} (ll:List (List β)) (hr:rows=EL z en ll) (hz : ∀ x,GG (en x)=true) (ho:off=0) (hl:len=ll.length) (h:K (ll.map λ r=>[AV.sl q (r.map en)])):CP q rows off len K:=by
 subst hr;exact QQ hz ho hl h
theorem GM {es:List (List AV)} {a:Int} {z:Nat} {K:List AV->Prop} {cs:List AV} (i:Nat) (ha:a=i) (h:es[i]? = some cs) (hz:cs.length=z) (hk:K cs):AR es a z K:=by
 subst ha;unfold AR;exact ⟨by omega,cs,h,hz,hk⟩
end Go.c6
