/-
  Arguments of the laws: numbers and lists of numbers, with their ranges.
-/
import Derived.Test.YtpafclijakpknaaGreatB11
import Derived.Test.YtpafclijakpknaaGreatB8
import Derived.Test.YtpafclijakpknaaGreatB9
import Derived.Test.YtpafclijakpknaaGreatB10
import Derived.Test.YtpafclijakpknaaGreatB7
import Derived.Test.YtpafclijakpknaaGreatB2
set_option linter.unusedSimpArgs false
set_option linter.unusedVariables false
set_option linter.unnecessarySimpa false
namespace Go.b8
set_option maxHeartbeats 4000000
theorem Aer {α:Type} {enc:α->List AV} {p:α->Prop} : ∀ {es:List (List AV)},(∀ x∈es,∃ y,x=enc y/\p y) -> ∃ l:List α,es=l.map enc /\ ∀ y∈l,p y
 | [],_=>⟨[],rfl,by simp⟩
 | e::es,h=>by
  obtain ⟨y,rfl,hy⟩:=h e List.mem_cons_self;obtain ⟨l,rfl,hl⟩:=Aer (enc:=enc) (p:=p) λ x hx=>h x (List.mem_cons_of_mem _ hx)
  exact ⟨y::l,rfl,by simpa using ⟨hy,hl⟩⟩
theorem An1 {α:Type} {enc:α->List AV} {p:α->Prop} {e:Ty} {cs:List AV} (he : ∀ x,LV e x -> ∃ y,x=enc y/\p y) (h:LV (.sl e) cs) : ∃ l:List α,cs=[.sl true (l.map enc)]/\l.length<9223372036854775808 /\ ∀ y∈l,p y:=by
 obtain ⟨es,rfl,hl,hx⟩:=h;obtain ⟨l,rfl,hp⟩:=Aer (enc:=enc) (p:=p) λ x hm=>he x (hx x hm)
 refine ⟨l,rfl,?_,hp⟩;have:maxLen=9223372036854775807:=rfl
 simp at hl;omega
theorem Arx {n:Int} (h:(Lit.int .i64 n).wf=true):GW n:=by
 simp only[Lit.wf,Bool.and_eq_true,decide_eq_true_eq]at h;have h1:IntKind.i64.min = -9223372036854775808:=rfl;have h2:IntKind.i64.max=9223372036854775807:=rfl;rw[h1,h2]at h;unfold GW;constructor<;>omega
theorem fQ {cs:List AV} (h:LV tI cs) : ∃ n,cs=DT n/\GW n:=by obtain ⟨n,rfl,hw⟩:=h;exact ⟨n,rfl,Arx hw⟩
theorem AdV {cs:List AV} (h:LV (.sl tI) cs) : ∃ l:List Int,cs=[.sl true (l.map DT)]/\l.length<9223372036854775808 /\ ∀ v∈l,GW v:=An1 (λ_=>fQ) h
theorem xT (x:Rat):x.num<0↔x<0:=by rw[<-Int.not_le,Rat.num_nonneg,Rat.not_le]
theorem QF (x:Rat):CU x=if x<0 then -x else x:=by
 unfold CU;by_cases h:x<0
 ·rw[if_pos h,if_pos ((xT x).2 h)]
 ·rw[if_neg h,if_neg (λ e=>h ((xT x).1 e))]
theorem W2 {a b c d:Rat} (h1:a<=b) (h2:c<=d):a+c<=b+d:=by grind
theorem ZN (x:Rat):0<=CU x:=by
 rw[QF];split
 ·grind
 ·grind
theorem aY (x y:Rat):CU (x*y)=CU x*CU y:=by
 have pp : ∀ a b:Rat,0<=a->0<=b->0<=a*b:=λ a b=>Rat.mul_nonneg
 rw[QF,QF,QF];by_cases hx:x<0
 ·by_cases hy:y<0
  ·have h:=pp (-x) (-y) (by grind) (by grind)
   rw[if_pos hx,if_pos hy,if_neg (by rw[Rat.not_lt];grind)];grind
  ·have h:=pp (-x) y (by grind) (by grind)
   rw[if_pos hx,if_neg hy];by_cases h0:x*y<0
   ·rw[if_pos h0];grind
   ·rw[if_neg h0];grind
 ·by_cases hy:y<0
  ·have h:=pp x (-y) (by grind) (by grind)
   rw[if_neg hx,if_pos hy];by_cases h0:x*y<0
   ·rw[if_pos h0];grind
   ·rw[if_neg h0];grind
  ·have h:=pp x y (by grind) (by grind)
   rw[if_neg hx,if_neg hy,if_neg (by grind)]
theorem dU (x y:Rat):CU (x+y)<=CU x+CU y:=by
 rw[QF,QF,QF];split<;>split<;>split<;>grind
theorem nG {x:Rat} (h:0<=x):CU x=x:=by
 rw[QF,if_neg (by grind)]
theorem dV:CU 0=0:=nG (by decide)
def DB:List Rat->Rat
 | []=>0
 | x::l=>CU x+DB l
theorem AfS (x:Rat) : ∀ l,DB (l++[x])=DB l+CU x
 | []=>by simp only[List.nil_append,DB];grind
 | y::l=>by
  simp only[List.cons_append,DB,AfS x l];grind
theorem qW : ∀ l,0<=DB l
 | []=>by simp [DB]
 | x::l=>by
  have h1:=ZN x;have h2:=qW l;simp only[DB];grind
theorem qX {c:Rat} (hc:0<=c) : ∀ l,DB (l.map (· * c))=DB l*c
 | []=>by simp only[List.map_nil,DB];grind
 | x::l=>by
  simp only[List.map_cons,DB,qX hc l,aY,nG hc];grind
def LZ (m x:Rat):Rat:=if m<CU x then CU x else m
def E6 (l:List Rat):Rat:=l.foldl LZ 0
theorem Any (l:List Rat) (x:Rat):E6 (l++[x])=LZ (E6 l) x:=by rw[E6,List.foldl_append];rfl
theorem Anu (m x:Rat):m<=LZ m x/\CU x<=LZ m x:=by
 unfold LZ;split<;>exact ⟨by grind,by grind⟩
theorem Anv {c:Rat} (hc:0<c) (m x:Rat):LZ (m*c) (x*c)=LZ m x*c:=by
 unfold LZ;rw[aY,nG (show 0<=c by grind)];by_cases h:m<CU x
 ·rw[if_pos h,if_pos ((Rat.mul_lt_mul_right hc).2 h)]
 ·rw[if_neg h,if_neg (λ h1=>h ((Rat.mul_lt_mul_right hc).1 h1))]
theorem Adx {c:Rat} (hc:0<c) : ∀ (l:List Rat) (m:Rat),(l.map (· * c)).foldl LZ (m*c)=l.foldl LZ m*c
 | [],_=>rfl
 | x::l,m=>by rw[List.map_cons,List.foldl_cons,List.foldl_cons,Anv hc,Adx hc l]
theorem Anx {c:Rat} (hc:0<c) (l:List Rat):E6 (l.map (· * c))=E6 l*c:=by
 have:=Adx hc l 0
 rwa [Rat.zero_mul]at this
theorem vW : ∀ (l:List Rat) (m:Rat),m<=l.foldl LZ m /\ ∀ x∈l,CU x<=l.foldl LZ m
 | [],m=>⟨Rat.le_refl,λ x h=>by cases h⟩
 | y::l,m=>by
  obtain ⟨h1,h2⟩:=vW l (LZ m y);obtain ⟨h3,h4⟩:=Anu m y;refine ⟨Rat.le_trans h3 h1,λ x hx => ?_⟩;rcases List.mem_cons.1 hx with rfl|hx
  ·exact Rat.le_trans h4 h1
  ·exact h2 x hx
theorem AdK {l:List Rat} {x:Rat} (h:x∈l):CU x<=E6 l:=(vW l 0).2 x h
theorem fO (l:List Rat):0<=E6 l:=(vW l 0).1
theorem Anw {l:List Rat} {c:Rat} (hc:0<=c) (h : ∀ x∈l,CU x<=c):E6 l<=c:=by
 have : ∀ (l:List Rat) (m:Rat),m<=c->(∀ x∈l,CU x<=c)->l.foldl LZ m<=c:=by
  intro l;induction l with
  | nil=>intro m hm _;exact hm
  | cons x l ih =>
   intro m hm h;refine ih _ ?_ λ y hy=>h y (List.mem_cons_of_mem _ hy)
   unfold LZ;split
   ·exact h x List.mem_cons_self
   ·exact hm
 exact this l 0 hc h
theorem uL : ∀ (r v:List Rat) (g:Rat),0<=g->(∀ x∈v,CU x<=g)->CU (CI r v)<=DB r*g
 | [],v,g,hg,_=>by
  have:CI [] v=0:=by cases v<;>rfl
  rw[this,dV];simp only[DB];grind
 | x::r,[],g,hg,_=>by
  show CU 0<=_;rw[dV];exact Rat.mul_nonneg (qW _) hg
 | x::r,y::v,g,hg,h=>by
  have h1:=uL r v g hg λ z hz=>h z (List.mem_cons_of_mem _ hz)
  have h2:=h y List.mem_cons_self;have h3:CU x*CU y<=CU x*g:=Rat.mul_le_mul_of_nonneg_left h2 (ZN x);have h4:=dU (x*y) (CI r v);rw[aY]at h4;simp only[CI,DB];rw[Rat.add_mul];exact Rat.le_trans h4 (W2 h3 h1)
theorem Apc {a:List (List Rat)} {s:Rat} (hs:0<=s) (h : ∀ r∈a,DB r<=s) (v:List Rat):E6 (GL a v)<=s*E6 v:=by
 refine Anw (Rat.mul_nonneg hs (fO v)) λ x hx => ?_
 obtain ⟨r,hr,rfl⟩:=List.mem_map.1 hx;exact Rat.le_trans (uL r v _ (fO v) λ y hy=>AdK hy) (Rat.mul_le_mul_of_nonneg_right (h r hr) (fO v))
def G0 (a:List (List Rat)):Bool:=a.all λ r=>decide (DB r<=1/2)
def EJ (n:Nat) (a:List (List Rat)):Nat->List (List Rat)
 | 0=>a
 | k+1=>K7 (EJ n a k) (EJ n a k) n
theorem aH {n:Nat} {a:List (List Rat)} (h:Sq n a) : ∀ k,Sq n (EJ n a k)
 | 0=>h
 | k+1=>Sq.mul (aH h k).l _
def EW (c:Rat) (a:List (List Rat)):List (List Rat):=a.map λ r=>r.map (· * c)
theorem AfV (c:Rat) (a:List (List Rat)):(EW c a).length=a.length:=by simp [EW]
theorem qY {n:Nat} (c:Rat) {a:List (List Rat)} (h : ∀ r∈a,r.length=n) : ∀ r∈EW c a,r.length=n:=λ r hr=>by
 obtain ⟨s,hs,rfl⟩:=List.mem_map.1 hr;rw[List.length_map];exact h s hs
theorem zI {n:Nat} (c:Rat) {a:List (List Rat)} (h:Sq n a):Sq n (EW c a):=⟨by rw[AfV,h.l],qY c h.r⟩
theorem AqC {c:Rat} {a:List (List Rat)} {i:Nat} {r:List Rat} (h:a[i]? = some r):(EW c a)[i]? = some (r.map (· * c)):=by rw[EW,List.getElem?_map,h];rfl
theorem Anq (r:List Rat) (c:Rat) (j:Nat):(r.map (· * c)).getD j 0=r.getD j 0*c:=by
 rw[List.getD_eq_getElem?_getD,List.getD_eq_getElem?_getD,List.getElem?_map];cases r[j]? with
 | none=>simp [Rat.zero_mul]
 | some x=>rfl
theorem AjW (c:Rat) (a:List (List Rat)) (j:Nat):GK (EW c a) j=(GK a j).map (· * c):=by
 rw[GK,GK,EW,List.map_map,List.map_map];exact List.map_congr_left λ r _=>Anq r c j
theorem uI (c d:Rat) (u v:List Rat):CI (u.map (· * c)) (v.map (· * d))=CI u v*(c*d):=by
 rw[oG,ZV,oG,ZV];grind
theorem Ao3 (c d:Rat) (a b:List (List Rat)) (n:Nat):K7 (EW c a) (EW d b) n=EW (c*d) (K7 a b n):=by
 show (a.map λ r=>r.map (· * c)).map (λ r=>IC r (EW d b) n)=(a.map λ r=>IC r b n).map (λ r=>r.map (· * (c*d)));rw[List.map_map,List.map_map];refine List.map_congr_left λ r _ => ?_
 show IC (r.map (· * c)) (EW d b) n=(IC r b n).map (· * (c*d));rw[IC,IC,List.map_map];refine List.map_congr_left λ j _ => ?_
 show CI (r.map (· * c)) (GK (EW d b) j)=CI r (GK b j)*(c*d);rw[AjW,uI]
theorem Apa (c d:Rat) (a:List (List Rat)) (v:List Rat):GL (EW c a) (v.map (· * d))=(GL a v).map (· * (c*d)):=by
 show (a.map λ r=>r.map (· * c)).map (λ r=>CI r (v.map (· * d)))=(a.map λ r=>CI r v).map (· * (c*d));rw[List.map_map,List.map_map];exact List.map_congr_left λ r _=>uI c d r v
def HE (D:Rat):Nat->Rat
 | 0=>D
 | i+1=>HE D i*HE D i
theorem uG {D:Rat} (h:0<D) : ∀ i,0<HE D i
 | 0=>h
 | i+1=>Rat.mul_pos (uG h i) (uG h i)
theorem Af9 (n:Nat) (a:List (List Rat)) (D:Rat) (i:Nat):K7 (EW (HE D i) (EJ n a i)) (EW (HE D i) (EJ n a i)) n=EW (HE D (i+1)) (EJ n a (i+1)):=Ao3 _ _ _ _ _
theorem AdN {s D:Rat} (hD:0<D):s*D+s*D<=D↔s<=1/2:=by
 have e:s*D+s*D=(s+s)*D:=by grind
 have h1:(s+s)*D<=1*D↔s+s<=1:=⟨λ h=>Rat.le_of_mul_le_mul_right h hD,λ h=>Rat.mul_le_mul_of_nonneg_right h (by grind)⟩;rw[Rat.one_mul]at h1;rw[e,h1];constructor<;>intro h<;>grind
theorem Ag9 {k:Nat} {x:Rat} (hx:Bt k x) {S:Nat} {z:Int} (hz:x*(S:Rat)=(z:Rat)) {M:Nat} (hS:S<=2^M):Wh (k+M) (x*(S:Rat)):=by
 refine ⟨z,hz,?_⟩;have h1:=cG x;have h2:((z*(x.den:Int):Int):Rat)=((x.num*(S:Int):Int):Rat):=by
  rw[Rat.intCast_mul,Rat.intCast_mul,<-h1,<-hz,Rat.intCast_natCast,Rat.intCast_natCast];grind
 have h3:=congrArg Int.natAbs (Rat.intCast_inj.1 h2);rw[Int.natAbs_mul,Int.natAbs_mul,Int.natAbs_natCast,Int.natAbs_natCast]at h3;have h4:z.natAbs<=z.natAbs*x.den:=Nat.le_mul_of_pos_right _ x.den_pos;rw[Nat.pow_add];exact Nat.le_trans h4 (by rw[h3];exact Nat.mul_le_mul hx.1 hS)
theorem Aqq (S:Nat) (x:Rat):((S:Rat)*x).den ∣ x.den:=by
 refine tZ (z:=S*x.num) ?_;have h:=cG x;rw[Rat.intCast_mul,<-h,Rat.intCast_natCast];grind
theorem AfN {k:Nat} : ∀ (l:List Rat) (S:Nat),0<S->Bs k l -> ∃ S':Nat,l.foldl lM (S:Rat)=(S':Rat)/\0<S'/\S'<=S*2^(l.length*k)/\S ∣ S' /\ ∀ x∈l,∃ z:Int,x*(S':Rat)=(z:Rat)
 | [],S,h,_=>⟨S,rfl,h,by simp,Nat.dvd_refl S,λ x hx=>by cases hx⟩
 | x::l,S,h,hb=>by
  have h1:=Aqq S x;have hx:=hb x List.mem_cons_self;have h2:((S:Rat)*x)*((((S:Rat)*x).den:Nat):Rat)=(((S:Rat)*x).num:Rat):=cG _;have h3:=Nat.le_of_dvd x.den_pos h1;have h4:=((S:Rat)*x).den_pos;generalize ((S:Rat)*x).num=u at h2;obtain ⟨S',e,p1,p2,p3,p4⟩:=AfN l (S*((S:Rat)*x).den) (Nat.mul_pos h h4) λ y hy=>hb y (List.mem_cons_of_mem _ hy)
  refine ⟨S',by rw[List.foldl_cons,<-e,lM,Rat.natCast_mul],p1,?_,Nat.dvd_trans (Nat.dvd_mul_right _ _) p3,λ y hy => ?_⟩
  ·have h5:S*((S:Rat)*x).den<=S*2^k:=Nat.mul_le_mul_left S (Nat.le_trans h3 hx.2)
   have h6:=zR (2^(l.length*k)) h5;rw[List.length_cons,Nat.succ_mul,Nat.pow_add,Nat.mul_comm (2^(l.length*k)),<-Nat.mul_assoc];exact Nat.le_trans p2 h6
  ·rcases List.mem_cons.1 hy with rfl|hy
   ·obtain ⟨t,rfl⟩:=p3
    refine ⟨u*(t:Int),?_⟩;rw[Rat.natCast_mul,Rat.natCast_mul,Rat.intCast_mul,<-h2,Rat.intCast_natCast];grind
   ·exact p4 y hy
theorem zC {k:Nat} {l:List Rat} (hb:Bs k l) : ∃ S:Nat,LA l=(S:Rat)/\0<S/\S<=2^(l.length*k) /\ ∀ x∈l,∃ z:Int,x*(S:Rat)=(z:Rat):=by
 obtain ⟨S,e,h1,h2,_,h3⟩:=AfN l 1 (by omega) hb;exact ⟨S,e,h1,by rwa [Nat.one_mul]at h2,h3⟩
theorem Ako (S:Nat) (x:Rat):((S:Rat)/(x.den:Rat)).den=((S:Rat)*x).den:=by
 have uz:(x.den:Rat)≠0:=λ e=>by
  have:((x.den:Nat):Rat)=((0:Nat):Rat):=e
  have:=Rat.natCast_inj.1 this
  have:=x.den_pos
  omega
 have hx:=cG x;refine Nat.dvd_antisymm ?_ ?_
 ·-- e=(S x).den: e S num/d whole,so d ∣ e S
  have h1:=cG ((S:Rat)*x);generalize hE:((S:Rat)*x).den=E at *;generalize ((S:Rat)*x).num=u at h1;have h2:(((E*S:Nat):Int)*x.num:Int)=u*(x.den:Int):=by
   refine Rat.intCast_inj.1 ?_;rw[Rat.intCast_mul,Rat.intCast_mul,<-hx,<-h1,Rat.intCast_natCast,Rat.intCast_natCast,Rat.natCast_mul];grind
  have h3:x.den ∣ E*S*x.num.natAbs:=by
   have h4:(x.den:Int) ∣ ((E*S:Nat):Int)*x.num:=⟨u,by rw[h2,Int.mul_comm]⟩;have:=Int.natAbs_dvd_natAbs.2 h4
   rw[Int.natAbs_mul,Int.natAbs_natCast,Int.natAbs_natCast]at this;exact this
  obtain ⟨t,ht⟩:=Nat.Coprime.dvd_of_dvd_mul_right (Nat.Coprime.symm x.reduced) h3;refine tZ (z:=t) ?_;have h5:((E*S:Nat):Rat)=((x.den*t:Nat):Rat):=congrArg _ ht;rw[Rat.natCast_mul,Rat.natCast_mul]at h5;rw[Rat.div_def,<-Rat.mul_assoc,h5,Rat.intCast_natCast];have:=Rat.mul_inv_cancel _ uz
  grind
 ·have h1:=cG ((S:Rat)/(x.den:Rat))
  generalize ((S:Rat)/(x.den:Rat)).num=u at h1;generalize ((S:Rat)/(x.den:Rat)).den=E at *;refine tZ (z:=u*x.num) ?_;rw[Rat.intCast_mul,<-h1,<-hx,Rat.div_def];have:=Rat.mul_inv_cancel _ uz
  grind
def GH (a:List (List Rat)) (b:List Rat):Nat->List Rat
 | 0=>b
 | k+1=>GL a (GH a b k)
theorem iG {a:List (List Rat)} {b:List Rat} {n:Nat} (ha:a.length=n) (hb:b.length=n) : ∀ k,(GH a b k).length=n
 | 0=>hb
 | k+1=>by rw[GH,gB,ha]
theorem Qv (a:List (List Rat)) (b:List Rat) (k:Nat) : ∀ m,GH a b (k+m)=GH a (GH a b k) m
 | 0=>rfl
 | m+1=>by rw[<-Nat.add_assoc,GH,Qv a b k m];rfl
theorem zQ {n:Nat} {a:List (List Rat)} (h:Sq n a) : ∀ (i:Nat) (v:List Rat),v.length=n->GL (EJ n a i) v=GH a v (2^i)
 | 0,_,_=>rfl
 | i+1,v,hv=>by
  rw[EJ,Ao9 _ _ _ (aH h i).r,zQ h i v hv,zQ h i _ (iG h.l hv _),<-Qv,Nat.pow_succ,Nat.mul_two]
theorem Aj8 {a:List (List Rat)} (h:G0 a=true) : ∀ r∈a,DB r<=1/2:=λ r hr=>by
 have:=List.all_eq_true.1 h r hr
 simpa using this
theorem Aj6 {a:List (List Rat)}:G0 a=true ↔ ∀ r∈a,DB r<=1/2:=by
 rw[G0,List.all_eq_true];exact ⟨λ h r hr=>by simpa using h r hr,λ h r hr=>by simpa using h r hr⟩
theorem rM {f g:Nat->Rat} : ∀ n,(∀ j,j<n->f j<=g j)->ES f n<=ES g n
 | 0,_=>Rat.le_refl
 | n+1,h=>by
  have h1:=rM n λ j hj=>h j (by omega)
  have h2:=h n (by omega);simp only[ES];exact W2 h1 h2
theorem rN {f:Nat->Rat} (h : ∀ j,0<=f j) : ∀ n,0<=ES f n
 | 0=>Rat.le_refl
 | n+1=>by
  have h1:=rN h n;have h2:=h n;simp only[ES];grind
theorem gZ (f:Nat->Rat) (p:Nat) : ∀ m,ES f (p+m)=ES f p+ES (λ j=>f (p+j)) m
 | 0=>by simp only[ES,Nat.add_zero];grind
 | m+1=>by
  rw[<-Nat.add_assoc,ES,gZ f p m,ES];grind
theorem Agn {f:Nat->Rat} (h : ∀ j,0<=f j) (m d:Nat):ES f m<=ES f (m+d):=by
 rw[gZ];have:=rN (f:=λ j=>f (m+j)) (λ j=>h _) d
 grind
theorem Qg {f:Nat->Rat} {c:Rat} : ∀ n,ES (λ j=>c*f j) n=c*ES f n
 | 0=>by simp only[ES];grind
 | n+1=>by simp only[ES,Qg n];grind
theorem AnI {g:Nat->Rat} {p:Nat} (h0 : ∀ j,0<=g j) (h : ∀ j,g (p+j)<=(1/2)*g j) (m:Nat):ES g (p+m)<=2*ES g p:=by
 have h1:ES (λ j=>g (p+j)) m<=ES (λ j=>(1/2)*g j) m:=rM m λ j _=>h j
 rw[Qg]at h1;have h2:=gZ g p m;have h3:ES g m<=ES g (p+m):=by rw[Nat.add_comm];exact Agn h0 m p
 grind
def JY (a:List (List Rat)) (b:List Rat) (k:Nat):Rat:=E6 (GH a b k)
def KF (a:List (List Rat)) (b c:List Rat) (k:Nat):Rat:=CU (CI c (GH a b k))
def H3 (S:FQ) (p:Nat):Rat:=CU S.d+(ES (KF S.a S.b S.c) (p+p)+DB S.c*ES (λ j=>JY S.a S.b (p+j)) p)
theorem Anh (a:List (List Rat)) (b c:List Rat) (k:Nat):KF a b c k<=DB c*JY a b k:=uL c _ _ (fO _) λ_ hx=>AdK hx
theorem Anr {n:Nat} {a:List (List Rat)} {b:List Rat} (ha:Sq n a) (hb:b.length=n) {i:Nat} (hc:G0 (EJ n a i)=true) (j:Nat):JY a b (2^i+j)<=(1/2)*JY a b j:=by
 rw[JY,JY,Nat.add_comm,Qv,<-zQ ha i _ (iG ha.l hb j)];exact Apc (by grind) (Aj8 hc) _
theorem An5 {n:Nat} {S:FQ} (ha:Sq n S.a) (hb:S.b.length=n) {i:Nat} (hc:G0 (EJ n S.a i)=true) (m:Nat):CU S.d+ES (KF S.a S.b S.c) m<=H3 S (2^i):=by
 have hf : ∀ j,0<=KF S.a S.b S.c j:=λ j=>ZN _
 have hg : ∀ j,0<=JY S.a S.b j:=λ j=>fO _
 have hz:=qW S.c;have key:ES (KF S.a S.b S.c) m<=ES (KF S.a S.b S.c) (2^i+2^i)+DB S.c*ES (λ j=>JY S.a S.b (2^i+j)) (2^i):=by
  generalize hp:2^i=p at *;have h1:ES (KF S.a S.b S.c) m<=ES (KF S.a S.b S.c) ((p+p)+m):=by
   rw[Nat.add_comm];exact Agn hf m (p+p)
  rw[gZ _ (p+p) m]at h1;have h2:ES (λ j=>KF S.a S.b S.c (p+p+j)) m<=ES (λ j=>DB S.c*JY S.a S.b (p+(p+j))) m:=rM m λ j _=>by
   rw[<-Nat.add_assoc];exact Anh _ _ _ _
  rw[Qg (f:=λ j=>JY S.a S.b (p+(p+j)))]at h2;have h3:=AnI (g:=λ j=>JY S.a S.b (p+j)) (p:=p) (λ j=>hg _) (λ j=>by
   have:=Anr ha hb hc (p+j)
   rw[hp]at this;exact this) m
  rw[gZ (λ j=>JY S.a S.b (p+j)) p m]at h3;have h4:ES (λ j=>JY S.a S.b (p+(p+j))) m<=ES (λ j=>JY S.a S.b (p+j)) p:=by grind
  have h5:=Rat.mul_le_mul_of_nonneg_left h4 hz;grind
 rw[H3];exact W2 Rat.le_refl key
theorem Abd {k:Nat} {x:Rat} {S:Nat} (hS:0<S) (Dr:S<=2^k) (h:Wh k (x*(S:Rat))):Bt k x:=by
 obtain ⟨z,hz,hk⟩:=h;have h0:(S:Rat)≠0:=λ e=>by
  have:((S:Nat):Rat)=((0:Nat):Rat):=e
  have:=Rat.natCast_inj.1 this
  omega
 have e:x=mkRat z S:=by
  rw[Rat.mkRat_eq_div,<-hz,Rat.div_def,Rat.mul_assoc,Rat.mul_inv_cancel _ h0,Rat.mul_one]
 rw[e];exact Bt.mk hk Dr
theorem Ag8 {k l n:Nat} {a:List (List Rat)} {v:List Rat} (ha : ∀ r∈a,∀ x∈r,Wh k x) (hl : ∀ r∈a,r.length=n) (hv : ∀ x∈v,Wh l x) : ∀ x∈GL a v,Wh (k+l+n) x:=λ x hx=>by
 obtain ⟨r,hr,rfl⟩:=List.mem_map.1 hx;have:=Wh.dot (ha r hr) hv
 rwa [hl r hr]at this
theorem lN {n k:Nat} {a:List (List Rat)} (hs:Sq n a) (hb:Ms k a) : ∃ S:Nat,LA a.flatten=(S:Rat)/\0<S/\S<=2^(n*n*k) /\ ∀ r∈EW (S:Rat) a,∀ x∈r,Wh (k+n*n*k) x:=by
 have hl:a.flatten.length=n*n:=by
  have : ∀ (a:List (List Rat)),(∀ r∈a,r.length=n)->a.flatten.length=a.length*n:=by
   intro a;induction a with
   | nil=>intro _;simp
   | cons r a ih =>
    intro h;rw[List.flatten_cons,List.length_append,ih λ x hx=>h x (List.mem_cons_of_mem _ hx),h r List.mem_cons_self,List.length_cons,Nat.succ_mul,Nat.add_comm]
  rw[this a hs.r,hs.l]
 have ym:Bs k a.flatten:=λ x hx=>by
  obtain ⟨r,hr,hx⟩:=List.mem_flatten.1 hx;exact hb r hr x hx
 obtain ⟨S,e,h1,h2,h3⟩:=zC ym;rw[hl]at h2;refine ⟨S,e,h1,h2,λ r hr x hx => ?_⟩;obtain ⟨s,hs,rfl⟩:=List.mem_map.1 hr;obtain ⟨y,hy,rfl⟩:=List.mem_map.1 hx;obtain ⟨z,hz⟩:=h3 y (List.mem_flatten.2 ⟨s,hs,hy⟩);exact Ag9 (hb s hs y hy) hz h2
theorem kL {n k:Nat} {b:List Rat} (hl:b.length=n) (hb:Bs k b) : ∃ S:Nat,LA b=(S:Rat)/\0<S/\S<=2^(n*k) /\ ∀ x∈b.map (· * (S:Rat)),Wh (k+n*k) x:=by
 obtain ⟨S,e,h1,h2,h3⟩:=zC hb;rw[hl]at h2;refine ⟨S,e,h1,h2,λ x hx => ?_⟩;obtain ⟨y,hy,rfl⟩:=List.mem_map.1 hx;obtain ⟨z,hz⟩:=h3 y hy;exact Ag9 (hb y hy) hz h2
def GQ (a:List (List Rat)) (b:List Rat) (D E:Rat) (j:Nat):List Rat:=(GH a b j).map (· * (E*D^j))
theorem rW (a:List (List Rat)) (b:List Rat) (D E:Rat):GQ a b D E 0=b.map (· * E):=by
 rw[GQ,Rat.pow_zero,Rat.mul_one];rfl
theorem rV (a:List (List Rat)) (b:List Rat) (D E:Rat) (j:Nat):GQ a b D E (j+1)=GL (EW D a) (GQ a b D E j):=by
 rw[GQ,GQ,Apa,GH];refine List.map_congr_left λ x _ => ?_
 rw[Rat.pow_succ];grind
def dK (n k j:Nat):Nat:=(k+n*k)+j*((k+n*n*k)+n)
theorem Rb {n k:Nat} {a:List (List Rat)} {b:List Rat} {D E:Nat} (hs:Sq n a) (hA : ∀ r∈EW (D:Rat) a,∀ x∈r,Wh (k+n*n*k) x) (hB : ∀ x∈b.map (· * (E:Rat)),Wh (k+n*k) x) : ∀ j,∀ x∈GQ a b D E j,Wh (dK n k j) x
 | 0=>by
  rw[rW];intro x hx;exact (hB x hx).le (by rw[dK];omega)
 | j+1=>by
  rw[rV];intro x hx;refine (Ag8 hA (qY _ hs.r) (Rb hs hA hB j) x hx).le ?_;simp only[dK,Nat.succ_mul];omega
theorem ApC (D j:Nat):(D:Rat)^j=((D^j:Nat):Rat):=by
 induction j with
 | zero=>rfl
 | succ j ih=>rw[Rat.pow_succ,ih,Nat.pow_succ,Rat.natCast_mul]
theorem Ag1 {n k:Nat} {a:List (List Rat)} {b:List Rat} (hs:Sq n a) (hb:b.length=n) (ha:Ms k a) (rz:Bs k b) (j:Nat):Bs (dK n k j) (GH a b j):=by
 obtain ⟨D,_,d1,d2,d3⟩:=lN hs ha;obtain ⟨E,_,e1,e2,e3⟩:=kL hb rz;have hw:=Rb hs d3 e3 j;intro x hx;refine Abd (S:=E*D^j) (Nat.mul_pos e1 (Nat.pow_pos d1)) ?_ ?_
 ·have h1:D^j<=2^(n*n*k*j):=by rw[Nat.pow_mul];exact Nat.pow_le_pow_left d2 j
  refine Nat.le_trans (Nat.mul_le_mul e2 h1) ?_;rw[<-Nat.pow_add];refine Nat.pow_le_pow_right (by omega) ?_;rw[dK,Nat.mul_add,Nat.mul_add,Nat.mul_comm (n*n*k) j];omega
 ·refine hw _ (List.mem_map.2 ⟨x,hx,?_⟩)
  rw[ApC,Rat.natCast_mul]
def LG (n:Nat) (a:List (List Rat)) (i:Nat):Prop:=G0 (EJ n a i)=true /\ ∀ j,j<i->G0 (EJ n a j)=false
theorem LG.uniq {n i j:Nat} {a:List (List Rat)} (hi:LG n a i) (hj:LG n a j):i=j:=by
 rcases Nat.lt_trichotomy i j with h|h|h
 ·have:=hj.2 i h
  rw[hi.1]at this;cases this
 ·exact h
 ·have:=hi.2 j h
  rw[hj.1]at this;cases this
def JF (k:Nat):Nat->Nat
 | 0=>17*k
 | i+1=>JF k i+JF k i+4
theorem Ahi {k:Nat} : ∀ i,i<=7->JF k i<=2176*k+508:=by
 intro i hi;have h1:JF k 0=17*k:=rfl;have e1:JF k 1=JF k 0+JF k 0+4:=rfl;have e2:JF k 2=JF k 1+JF k 1+4:=rfl;have e3:JF k 3=JF k 2+JF k 2+4:=rfl;have e4:JF k 4=JF k 3+JF k 3+4:=rfl;have e5:JF k 5=JF k 4+JF k 4+4:=rfl;have e6:JF k 6=JF k 5+JF k 5+4:=rfl;have e7:JF k 7=JF k 6+JF k 6+4:=rfl;obtain rfl|rfl|rfl|rfl|rfl|rfl|rfl|rfl:i=0\/i=1\/i=2\/i=3\/i=4\/i=5\/i=6\/i=7:=by omega
 all_goals omega
theorem Arz {k l n:Nat} {a b:List (List Rat)} (ha : ∀ r∈a,∀ x∈r,Wh k x) (hl : ∀ r∈a,r.length=n) (hb : ∀ r∈b,∀ x∈r,Wh l x) : ∀ r∈K7 a b n,∀ x∈r,Wh (k+l+n) x:=λ r hr x hx=>by
 obtain ⟨s,hs,rfl⟩:=List.mem_map.1 hr;obtain ⟨j,_,rfl⟩:=List.mem_map.1 hx;have hc : ∀ x∈GK b j,Wh l x:=λ x hx=>by
  obtain ⟨t,ht,rfl⟩:=List.mem_map.1 hx;rw[List.getD_eq_getElem?_getD];cases e:t[j]? with
  | none=>exact Wh.zero l
  | some y=>exact hb t ht y (zM e)
 have:=Wh.dot (ha s hs) hc
 rwa [hl s hs]at this
theorem rH {n k:Nat} {a:List (List Rat)} {D:Nat} (hs:Sq n a) (hn:n<=4) (hA : ∀ r∈EW (D:Rat) a,∀ x∈r,Wh (k+n*n*k) x) : ∀ i,∀ r∈EW (HE (D:Rat) i) (EJ n a i),∀ x∈r,Wh (JF k i) x
 | 0=>λ r hr x hx=>(hA r hr x hx).le (by
   show k+n*n*k<=17*k;have:n*n<=4*4:=Nat.mul_le_mul hn hn
   have:=zR k this
   omega)
 | i+1=>λ r hr x hx=>by
  rw[<-Af9]at hr;exact (Arz (rH hs hn hA i) (qY _ (aH hs i).r) (rH hs hn hA i) r hr x hx).le (by simp only[JF];omega)
theorem uH {D M:Nat} (hD:D<=2^M) : ∀ i,Wh (2^i*M) (HE (D:Rat) i)
 | 0=>⟨(D:Int),by rw[HE,Rat.intCast_natCast],by rw[Nat.pow_zero,Nat.one_mul];simpa using hD⟩
 | i+1=>((uH hD i).mul (uH hD i)).le (by rw[Nat.pow_succ,Nat.mul_two,Nat.add_mul];exact Nat.le_refl _)
theorem AbX (D:Nat) : ∀ i,HE (D:Rat) i=((D^2^i:Nat):Rat)
 | 0=>by simp [HE]
 | i+1=>by
  rw[HE,AbX D i,<-Rat.natCast_mul,<-Nat.pow_add,Nat.pow_succ,Nat.mul_two]
theorem Aj9 {n i:Nat} {a:List (List Rat)} {D:Rat} (hD:0<D):(∀ r∈EW (HE D i) (EJ n a i),DB r+DB r<=HE D i)↔G0 (EJ n a i)=true:=by
 have hp:=uG hD i;rw[Aj6];constructor
 ·intro h r hr
  have:=h _ (List.mem_map.2 ⟨r,hr,rfl⟩)
  rw[qX (by grind)]at this;exact (AdN hp).1 this
 ·intro h r hr
  obtain ⟨s,hs,rfl⟩:=List.mem_map.1 hr;rw[qX (by grind)];exact (AdN hp).2 (h s hs)
theorem XW {k:Nat} : ∀ {l:List Rat},Bs k l->Bt (l.length*(k+1)) (DB l)
 | [],_=>Bt.zero _
 | x::l,h=>by
  have h1:=XW (l:=l) λ y hy=>h y (List.mem_cons_of_mem _ hy)
  have h2:Bt k (CU x):=by
   unfold CU;split
   ·exact (h x List.mem_cons_self).Nc
   ·exact h x List.mem_cons_self
  refine (h2.add h1).le ?_;rw[List.length_cons,Nat.succ_mul];omega
theorem ME {k:Nat} {x:Rat} (h:Bt k x):Bt k (CU x):=by
 unfold CU;split
 ·exact h.Nc
 ·exact h
theorem Ant {k:Nat} {m x:Rat} (hm:Bt k m) (hx:Bt k x):Bt k (LZ m x):=by
 unfold LZ;split
 ·exact ME hx
 ·exact hm
theorem XG {k:Nat} {l:List Rat} (h:Bs k l):Bt k (E6 l):=by
 have : ∀ (l:List Rat) (m:Rat),Bt k m->Bs k l->Bt k (l.foldl LZ m):=by
  intro l;induction l with
  | nil=>intro m hm _;exact hm
  | cons x l ih =>
   intro m hm h;exact ih _ (Ant hm (h x List.mem_cons_self)) λ y hy=>h y (List.mem_cons_of_mem _ hy)
 exact this l 0 (Bt.zero k) h
theorem yE (D:Rat) (a:Nat) : ∀ b:Nat,D^(a+b)=D^a*D^b
 | 0=>by rw[Nat.add_zero,Rat.pow_zero,Rat.mul_one]
 | b+1=>by rw[<-Nat.add_assoc,Rat.pow_succ,yE D a b,Rat.pow_succ,Rat.mul_assoc]
def H7 (D:Rat) (f:Nat->Rat):Nat->Rat
 | 0=>0
 | m+1=>H7 D f m*D+f m
theorem wI {D c:Rat} {f F:Nat->Rat} (h : ∀ j,f j=F j*(c*D^j)) : ∀ m,H7 D f m*D=c*D^m*ES F m
 | 0=>by simp only[H7,ES];grind
 | m+1=>by
  have:=wI h m
  rw[H7,Rat.add_mul,this,h m,Rat.pow_succ,ES];grind
theorem cB {D:Rat} {f:Nat->Rat} {d k:Nat} (hD:Bt d D) : ∀ m,(∀ j,j<m->Bt k (f j))->Bt (m*(d+k+1)) (H7 D f m)
 | 0,_=>Bt.zero _
 | m+1,h=>by
  have h1:=cB hD m λ j hj=>h j (by omega)
  refine ((h1.mul hD).add (h m (by omega))).le ?_;rw[Nat.succ_mul];omega
theorem ArL {a:List (List Rat)} {b:List Rat} {D E:Rat} (hD:0<D) (hE:0<E) (j:Nat):E6 (GQ a b D E j)=JY a b j*(E*D^j):=Anx (Rat.mul_pos hE (by
 induction j with
 | zero=>rw[Rat.pow_zero];decide
 | succ j ih=>rw[Rat.pow_succ];exact Rat.mul_pos ih hD)) _
theorem Agv {S:FQ} {D E O:Rat} {p:Nat} (hp:1<=p) (hD:0<D) (hE:0<E) (hO:0<O) :
  (H7 D (λ j=>CU (CI (S.c.map (· * O)) (GQ S.a S.b D E j))) (p+p)+DB (S.c.map (· * O))*H7 D (λ j=>E6 (GQ S.a S.b D E (p+j))) p)/(D^(p+p-1)*(E*O))=ES (KF S.a S.b S.c) (p+p)+DB S.c*ES (λ j=>JY S.a S.b (p+j)) p:=by
 have Gn : ∀ j:Nat,0<D^j:=λ j=>by
  induction j with
  | zero=>rw[Rat.pow_zero];decide
  | succ j ih=>rw[Rat.pow_succ];exact Rat.mul_pos ih hD
 have h1:=wI (D:=D) (c:=O*E) (f:=λ j=>CU (CI (S.c.map (· * O)) (GQ S.a S.b D E j))) (F:=KF S.a S.b S.c) (λ j=>by
  show CU (CI (S.c.map (· * O)) (GQ S.a S.b D E j))=_;rw[GQ,uI,aY,KF,nG (show 0<=O*(E*D^j) from by have:=Rat.mul_pos hO (Rat.mul_pos hE (Gn j));grind)];grind) (p+p)
 have h2:=wI (D:=D) (c:=E*D^p) (f:=λ j=>E6 (GQ S.a S.b D E (p+j))) (F:=λ j=>JY S.a S.b (p+j)) (λ j=>by
  show E6 (GQ S.a S.b D E (p+j))=_;rw[ArL hD hE,yE];grind) p
 have h3:DB (S.c.map (· * O))=DB S.c*O:=qX (by grind) _;generalize H7 D (λ j=>CU (CI (S.c.map (· * O)) (GQ S.a S.b D E j))) (p+p)=u at *;generalize H7 D (λ j=>E6 (GQ S.a S.b D E (p+j))) p=t at *;generalize ES (KF S.a S.b S.c) (p+p)=F at *;generalize ES (λ j=>JY S.a S.b (p+j)) p=G at *;rw[h3];have h4:D^(p+p)=D^(p+p-1)*D:=by rw[<-Rat.pow_succ];congr 1;omega
 have h5:D^(p+p)=D^p*D^p:=yE _ _ _;have hq:=Gn (p+p-1);have hz:=Gn p;generalize D^(p+p-1)=L at *;generalize D^(p+p)=M at *;generalize D^p=P at *;have m7:L*(E*O)≠0:=by
  have:=Rat.mul_pos hq (Rat.mul_pos hE hO)
  grind
 have key:(u+DB S.c*O*t)*D=(F+DB S.c*G)*(L*(E*O))*D:=by
  have e1:u*D=O*E*(L*D)*F:=by rw[h1,h4]
  have e2:t*D=E*(L*D)*G:=by rw[h2,<-h4,h5];grind
  have:(u+DB S.c*O*t)*D=u*D+DB S.c*O*(t*D):=by grind
  rw[this,e1,e2];grind
 have Jx:D≠0:=by grind
 have:=Ao7 Jx key
 rw[this,Rat.div_def,Rat.mul_assoc,Rat.mul_inv_cancel _ m7,Rat.mul_one]
abbrev tPl:Ty := .cons tI (.cons tI (.cons tI (.cons (.sl tI) (.cons (.sl tI) .nil))))
theorem An0 {cs:List AV} (h:LV tPl cs) : ∃ (kd dk ck:Int) (b a:List Int),cs=[.int .i64 kd,.int .i64 dk,.int .i64 ck,.sl true (b.map DT),.sl true (a.map DT)]/\GW kd/\GW dk/\GW ck/\b.length<9223372036854775808/\a.length<9223372036854775808 /\ ∀ v∈a,GW v:=by
 obtain ⟨_,_,rfl,h1,_,_,rfl,h2,_,_,rfl,h3,_,_,rfl,h4,_,_,rfl,h5,rfl⟩:=h;obtain ⟨kd,rfl,i1⟩:=fQ h1;obtain ⟨dk,rfl,i2⟩:=fQ h2;obtain ⟨ck,rfl,i3⟩:=fQ h3;obtain ⟨b,rfl,l4,_⟩:=AdV h4;obtain ⟨a,rfl,l5,i5⟩:=AdV h5;exact ⟨kd,dk,ck,b,a,rfl,i1,i2,i3,l4,l5,i5⟩
end Go.b8
namespace Go.b8
open F
attribute [local irreducible] AJ A3 BU AU FE BR C1 CK DS DE FA G7 DR B2 EH E5 AL CQ BC pw FM E2 F7 G8 GX EG FK EE FZ
variable {L:Lib}
set_option maxHeartbeats 8000000
abbrev eM (m:List (List Rat)):List (List AV):=m.map λ r=>[AV.sl false (r.map eQ)]
theorem tL (m:List (List Rat)):IH (eM m):=ZR (λ r=>by simp only[EC,B3,and_true,true_and];exact LW r) m
theorem Abn (m:List (List Rat)):B3 (.sl false (eM m)):=by
 simp only[B3,true_and];exact tL m
theorem iC {b:Int} (hb:0<=b) (v:Int) : -b<=QC b v/\QC b v<=b:=by
 have:=WE (v:=IntKind.i64.wrap (v+b)) (m:=2*b+1) (by omega)
 unfold QC;omega
theorem Ya {c:Wd} (hc:WV c) (l:List Int) (n:Nat) : ∀ v∈MP (pw (c.b-1)-1) l n,FT c v/\FT c (-v):=by
 intro v hv;obtain ⟨h1,h2,h3,h4⟩:=RQ hc;simp only[MP,List.mem_map]at hv;obtain ⟨i,_,rfl⟩:=hv;have:=iC (b:=pw (c.b-1)-1) (by omega) (I9 l i)
 exact ⟨⟨hc,by omega,by omega⟩,⟨hc,by omega,by omega⟩⟩
theorem sY (b:Int) (l:List Int) (n:Nat):(MP b l n).length=n:=by simp [MP]
theorem Abz (k:Int):(E1 k).f<=(E1 k).b-2:=by
 have hr:=WE (v:=k) (m:=1099511627776) (by omega);have h1:0<=G4 k 1099511627776%(9-6+1):=Int.emod_nonneg _ (by omega);simp only[E1,Y9];generalize G4 k 1099511627776/(9-6+1)=d;omega
def gJ (c:Wd) (l:List Int):List Int :=
 if G4 (I9 l 0) 3=0 then [] else
 if G4 (I9 l 0) 3=1 then [QC (pw c.f*3/4) (I9 l 1)] else
 [QC ((pw c.f+QC (pw c.f/2) (I9 l 1))/2) (I9 l 2),QC (pw c.f/2) (I9 l 1)]
theorem Ajs (b x:Int):MP b [x] 1=[QC b x]:=rfl
theorem Ajg {l:List Int} (h : ∀ v∈l,GW v) (i:Int):GW (I9 l i):=by
 unfold I9;split
 ·rw[List.getD_eq_getElem?_getD]
  cases he:l[i.toNat]? with
  | none=>exact ⟨by show _<=(0:Int);decide,by show (0:Int)<=_;decide⟩
  | some v=>exact h v (zM he)
 ·exact ⟨by decide,by decide⟩
theorem Am6 (W:x6 L) (N:bp L) (c:Wd) (hc:WV c) (l:List Int) (q:Bool) (hl : ∀ v∈l,GW v):Ev L 347 [.agg (JP c),.sl q (l.map DT)] (.sl false ((gJ c l).map DT)):=by
 have hp:=HY c.f;have Pj:pw c.f<=8388608:=by
  have y5:=hc;unfold WV at y5;have:=PC (n:=c.f) (m:=23) (by omega)
  have zu:pw 23=8388608:=by unfold pw;rfl
  omega
 have hA:=Add W l;have hW:=Z1 W (I9 l 0) 3 (Ajg hl 0) (by omega);have hr:=WE (v:=I9 l 0) (m:=3) (by omega);have hB:=λ(b:Int) (x:Int) (hb:0<=b/\b<=1000000000000)=>oW W b hb [x] true 1 (by omega)
 simp only[Ajs,List.map_cons,List.map_nil]at hB;have y5:=hc;unfold WV at y5;refine Ev.x N.WM rfl rfl ?_;have hz:=iC (b:=pw c.f/2) (by omega) (I9 l 1);have b1:=hB (pw c.f*3/4) (I9 l 1) (by omega);have b2:=hB (pw c.f/2) (I9 l 1) (by omega);have b3:=hB ((pw c.f+QC (pw c.f/2) (I9 l 1))/2) (I9 l 2) (by omega);unfold gJ;by_cases h0:G4 (I9 l 0) 3=0
 ·rw[if_pos h0]
  (repeat' ((first|(apply A9<;>intro hc<;>try omega)|(refine IY ?_ (λ_ _ => ?_);omega)|(apply EM;omega)|apply A2|refine AP (hA _ _) ?_|refine AP (hW) ?_)<;>conv=>whnf))
  exact BV rfl (by simp [B3,EC,IH])
 rw[if_neg h0];by_cases h1:G4 (I9 l 0) 3=1
 ·rw[if_pos h1]
  (repeat' ((first|(apply A9<;>intro hc<;>try omega)|(apply I8;omega)|(refine IY ?_ (λ_ _ => ?_);omega)|(refine PT ?_ ?_ (λ_ => ?_) (λ_ _ => ?_);omega;omega;all_goals try omega)|(apply EM;omega)|refine J4 rfl ?_|apply A2|refine AP (hA _ _) ?_|refine AP (hW) ?_|refine AP (b1) ?_)<;>conv=>whnf))
  exact BV rfl (by simp [B3,EC,IH])
 rw[if_neg h1];generalize QC (pw c.f/2) (I9 l 1)=z at *;(repeat' ((first|(apply A9<;>intro hc<;>try omega)|(refine IY ?_ (λ_ _ => ?_);omega)|(refine PT ?_ ?_ (λ_ => ?_) (λ_ _ => ?_);omega;omega;all_goals try omega)|(apply EM;omega)|refine J4 rfl ?_|apply A2|refine AP (hA _ _) ?_|refine AP (hW) ?_|refine AP (b2) ?_)<;>conv=>whnf))
 refine CN (l:=[_]) (enc:=DT) (a:=0) rfl (by decide) rfl ?_;(conv=>whnf)
 (repeat' ((first|(apply BG;omega)|(refine PT ?_ ?_ (λ_ => ?_) (λ_ _ => ?_);omega;omega;all_goals try omega)|refine J4 rfl ?_|refine AP (hA _ _) ?_|refine AP (b3) ?_)<;>conv=>whnf))
 refine CN (l:=[_]) (enc:=DT) (a:=0) rfl (by decide) rfl ?_;(conv=>whnf)
 (repeat' (refine ON rfl rfl ?_<;>conv=>whnf))
 exact BV rfl (by simp [B3,EC,IH])
end Go.b8

namespace Go.b8
variable {L:Lib}
end Go.b8

namespace Go.b8
open F
attribute [local irreducible] AJ A3 BU AU FE BR C1 CK DS DE FA G7 DR B2 EH E5 AL CQ BC pw FM E2 F7 G8 GX EG FK EE FZ
variable {L:Lib}
set_option maxHeartbeats 16000000
set_option maxRecDepth 8000
abbrev MH (q:Bool) (m:List (List Rat)):List (List AV):=m.map λ r=>[AV.sl q (r.map eQ)]
def cw (n:Nat) (v:List Rat):List (Option Rat):=List.replicate (n-v.length) none++v.map some
theorem Akr:dg 1=[1]:=by rw[OR (by decide)];simp [JL]
theorem ApH (x:Rat):qv false (dg x.num.natAbs) (dg x.den)=CU x:=by
 unfold CU;split
 ·rename_i h
  have:=JS (-x)
  rw[Rat.neg_num,Int.natAbs_neg,Rat.neg_den,show decide (-x.num<0)=false from decide_eq_false (by omega)]at this;exact this
 ·rename_i h
  have:=JS x
  rw[show decide (x.num<0)=false from decide_eq_false h]at this;exact this
theorem jS (N:bq L) {x:Rat} {k:Nat} (hx:Bt k x) (hk:k<2199023255552):Ev L 256 [.agg (eQ x)] (.agg (eQ (CU x))):=by
 have hs:=hx.sm hk;have hT:=vH N.toa5 false false false (dg x.num.natAbs) (dg x.den) (hs.1.le (by omega)) (hs.2.le (by omega));rw[ApH]at hT;refine Ev.x N.TV rfl rfl ?_;(repeat' ((first|apply A2|refine AP (hT) ?_)<;>conv=>whnf))
 exact BV rfl (GD _)
theorem Alo (z:Int):eQ (z:Rat)=[.bool (decide (z<0)),.sl false ((dg z.natAbs).map BF),.sl false [[.int .u32 1]]]:=by
 simp only[eQ,rQ,Rat.num_intCast,Rat.den_intCast,Akr];rfl
theorem Ape {T:List (List Rat)} {n i:Nat} (hl:T.length=n) (hi:i<n):(mz T n i)[i]? = some none:=by
 have jg:(HA 3 eQ (T.take i)).length=i:=by simp only[HA,List.length_map,List.length_take];omega
 have:=vY (z:=(none:Option (Nat × List (List AV)))) (l:=HA 3 eQ (T.take i)) (m:=n) (by omega)
 rw[jg]at this;exact this
theorem tX {k:Nat} {x:Rat} (h:Bt k x):Bt k ((x.den:Nat):Rat):=by
 refine ⟨?_,?_⟩
 ·rw[Rat.num_natCast,Int.natAbs_natCast];exact h.2
 ·rw[Rat.den_natCast];exact Nat.one_le_two_pow
theorem Akn (x:Rat):((x.den:Nat):Rat)≠0:=λ e=>by
 have:((x.den:Nat):Rat)=((0:Nat):Rat):=e
 have:=Rat.natCast_inj.1 this
 have:=x.den_pos
 omega
theorem AcN (N:n8 L) {x:Rat} {k:Nat} (hx:Bt k x) (hk:k<2199023255552):Ev L 294 [.agg (eQ x)] (.agg (eQ ((x.den:Nat):Rat))):=by
 have hT:=bT N.toa5 hx hk;have o6:=GD ((x.den:Nat):Rat);have e:eQ ((x.den:Nat):Rat)=[.bool false,.sl false ((dg x.den).map BF),.sl false [[.int .u32 1]]]:=by
  rw[<-Rat.intCast_natCast,Alo,Int.natAbs_natCast,show decide (((x.den:Nat):Int)<0)=false by simp]
 rw[e]at o6 ⊢;refine Ev.x N.TB rfl rfl ?_;(repeat' ((first|refine J4 rfl ?_|apply A2|refine AP (hT) ?_)<;>conv=>whnf))
 exact BV rfl o6
theorem jX (N:n8 L) (q q':Bool) (ls:List (List Rat)) (k:Nat) (hb:Ms k ls) (hl:ls.flatten.length<=64) (zl:ls.length<=1000) (hk:k<=1000000):Ev L 295 [.sl q (MH q' ls)] (.agg (eQ (LA ls.flatten))):=by
 have hO:=IV N.toa5 1 (by omega);rw[show ((1:Int):Rat)=1 from rfl]at hO;have key : ∀ (i j:Nat) (r:List Rat) (x:Rat),ls[i]? = some r->r[j]? = some x -> ∃ S:Nat,LA ((ls.take i).flatten++r.take j)=(S:Rat)/\Bt (64*k) (S:Rat)/\LA ((ls.take i).flatten++r.take (j+1))=(S:Rat)*(((S:Rat)/((x.den:Nat):Rat)).den:Nat):=by
  intro i j r x hr hx;have gu:=(zS hx).1;have hlen:((ls.take i).flatten++r.take j).length<=64:=by
   have e:ls.flatten=(ls.take i).flatten++(r++(ls.drop (i+1)).flatten):=by
    have h1:=(zS hr);obtain ⟨h1,h2⟩:=h1;conv=>lhs;rw[<-List.take_append_drop i ls,List.flatten_append,List.drop_eq_getElem_cons h1,h2,List.flatten_cons]
   rw[e,List.length_append,List.length_append]at hl;rw[List.length_append,List.length_take];omega
  have Hz:Bs k ((ls.take i).flatten++r.take j):=λ y hy=>by
   rcases List.mem_append.1 hy with hy|hy
   ·obtain ⟨s,hs,hy⟩:=List.mem_flatten.1 hy
    exact hb s (List.mem_of_mem_take hs) y hy
   ·exact hb r (zM hr) y (List.mem_of_mem_take hy)
  obtain ⟨S,e,h1,h2,_⟩:=zC Hz;refine ⟨S,e,⟨?_,?_⟩,?_⟩
  ·rw[Rat.num_natCast,Int.natAbs_natCast]
   exact Nat.le_trans h2 (Nat.pow_le_pow_right (by omega) (zR k hlen))
  ·rw[Rat.den_natCast];exact Nat.one_le_two_pow
  ·rw[List.take_add_one,hx,Option.toList_some,<-List.append_assoc,Aqr,e,lM,Ako]
 refine Ev.x N.S9 rfl rfl ?_;(repeat' ((first|apply BT|apply A2|refine AP (hO) ?_)<;>conv=>whnf))
 refine G6 (λ i=>ls.length-i) (λ(i:Nat)=>i<=ls.length) (λ i=>[(13,.int .i64 i)]) (λ i=>[(3,3,.bx (eQ (LA (ls.take i).flatten)))]) [] [] 0 (by rw[show LA (ls.take 0).flatten=1 from rfl];exact (by (conv=>whnf);exact ⟨rfl,rfl,rfl⟩)) (by omega) ?_;intro i p1 ih;by_cases hi:i<ls.length
 ·obtain ⟨r,hr⟩ : ∃ r,ls[i]? = some r:=⟨_,zE hi⟩
  have vg:ls[(i:Int).toNat]? = some r:=hr;have sn:=hb r (zM hr);have gj:r.length<=64:=by
   have e:ls.flatten=(ls.take i).flatten++(r++(ls.drop (i+1)).flatten):=by
    obtain ⟨h1,h2⟩:=zS hr;conv=>lhs;rw[<-List.take_append_drop i ls,List.flatten_append,List.drop_eq_getElem_cons h1,h2,List.flatten_cons]
   rw[e,List.length_append,List.length_append]at hl;omega
  have jf:(ls.take (i+1)).flatten=(ls.take i).flatten++r:=by
   rw[List.take_add_one,hr,List.flatten_append];simp
  (repeat' ((first|(apply A9<;>intro hc<;>try omega)|apply BT|(refine CN (by assumption) ?_ rfl ?_;omega)|apply A2)<;>conv=>whnf))
  refine G6 (λ j=>r.length-j) (λ(j:Nat)=>j<=r.length) (λ j=>[(19,.int .i64 j)]) (λ j=>[(3,3,.bx (eQ (LA ((ls.take i).flatten++r.take j))))]) [] [] 0 (by rw[List.take_zero,List.append_nil];exact (by (conv=>whnf);exact ⟨rfl,rfl,rfl⟩)) (by omega) ?_;intro j r1 jh;by_cases hj:j<r.length
  ·obtain ⟨x,hx⟩ : ∃ x,r[j]? = some x:=⟨_,zE hj⟩
   have nr:r[(j:Int).toNat]? = some x:=hx;obtain ⟨S,e,hS,e2⟩:=key i j r x hr hx;have xu:=sn.at hx;have yh:=AcN N xu (by omega);have hq:=hS.vn (tX xu);have Rv:=jW N.toa5 hS (tX xu) (by omega) (by omega) (Akn x);have ny:=AcN N hq (by omega);have hM:=LL N.toa5 hS (tX hq) (by omega) (by omega);rw[<-e2]at hM;rw[e];generalize (S:Rat)/((x.den:Nat):Rat)=y at *;generalize ((x.den:Nat):Rat)=d at *;generalize (S:Rat)=s at *;generalize ((y.den:Nat):Rat)=d2 at *;(repeat' ((first|(apply A9<;>intro hc<;>try omega)|(apply BG;omega)|(refine CN (by assumption) ?_ rfl ?_;omega)|apply A2|refine AP (yh) ?_|refine AP (Rv) ?_|refine AP (ny) ?_|refine AP (hM) ?_)<;>conv=>whnf))
   exact CZ [] (jh (j+1) (by omega) (by omega))
  obtain rfl:j=r.length:=by omega
  clear jh;rw[zT (Nat.le_refl _),<-jf];(repeat' ((first|(apply A9<;>intro hc<;>try omega)|(apply BG;omega)|apply A2)<;>conv=>whnf))
  exact CZ [] (ih (i+1) (by omega) (by omega))
 obtain rfl:i=ls.length:=by omega
 clear ih;rw[zT (Nat.le_refl _)];(repeat' ((first|(apply A9<;>intro hc<;>try omega)|apply A2)<;>conv=>whnf))
 exact BV rfl (GD _)
theorem jY (N:n8 L) (q:Bool) (v:List Rat) (c:Rat) (k l:Nat) (hv:Bs k v) (hc:Bt l c) (hk:k<1099511627776) (hl:l<1099511627776) (hn:v.length<=1000000):Ev L 296 [.sl q (v.map eQ),.agg (eQ c)] (.sl false ((v.map (· * c)).map eQ)):=by
 refine Ev.x N.TL rfl rfl ?_;(repeat' ((first|apply BT|apply A2)<;>conv=>whnf))
 refine GJ (enc:=eO) none v.length rfl rfl (by omega) ?_;(conv=>whnf)
 (repeat' (apply BT<;>conv=>whnf))
 refine G6 (λ i=>v.length-i) (λ(i:Nat)=>i<=v.length) (λ i=>[(12,.int .i64 i)]) (λ i=>[(9,9,.rw 3 ((GU ((v.map (· * c)).take i) v.length).map eO))]) [] [] 0 (by first|exact (by (conv=>whnf);exact ⟨rfl,rfl,rfl⟩)|(rw[List.take_zero,<-QY];exact (by (conv=>whnf);exact ⟨rfl,rfl,rfl⟩))) (by omega) ?_;intro i p1 ih;have kp:((v.map (· * c)).take i).length=i:=by rw[List.length_take,List.length_map];omega
 have Pb:=OU (l:=(v.map (· * c)).take i) (m:=v.length) (by omega);by_cases hi:i<v.length
 ·obtain ⟨x,hx⟩ : ∃ x,v[i]? = some x:=⟨_,zE hi⟩
  have nr:v[(i:Int).toNat]? = some x:=hx;have hy:(v.map (· * c))[i]? = some (x*c):=by rw[List.getElem?_map,hx];rfl
  have hs:=PZ (l:=(v.map (· * c)).take i) (m:=v.length) (x:=x*c) (by omega);rw[kp,<-OG hy]at hs;have hM:=LL N.toa5 (hv.at hx) hc (by omega) (by omega);generalize GU ((v.map (· * c)).take i) v.length=F0 at *;generalize x*c=y at *;(repeat' ((first|(apply A9<;>intro hc<;>try omega)|(apply B5;omega)|(refine CN (by assumption) ?_ rfl ?_;omega)|apply A2|refine AP (hM) ?_)<;>conv=>whnf))
  refine KS (enc:=eO) (some y) rfl (λ e=>by cases e<;>rfl) (by omega) ?_;(conv=>whnf)
  rw[hs];(repeat' ((first|(apply BG;omega)|fail)<;>conv=>whnf))
  exact CZ [] (ih (i+1) (by omega) (by omega))
 obtain rfl:i=v.length:=by omega
 clear ih;have wy:(v.map (· * c)).length=v.length:=List.length_map _;rw[zT (by omega),QX wy];(repeat' ((first|(apply A9<;>intro hc<;>try omega)|(refine FO (λ_=>rfl) rfl ?_ ?_;(first|rfl|simp))|apply A2)<;>conv=>whnf))
 exact BV rfl (by simp only[B3,true_and];exact LW _)
abbrev NX (q:Bool) (x:Rat):List AV:=rQ q q (decide (x.num<0)) (dg x.num.natAbs) (dg x.den)
theorem Am0 (N:a5 L) (q:Bool) {x:Rat} {k:Nat} (hx:Bt k x) (hk:k<2199023255552):Ev L 97 [.agg (NX q x)] (.int .i64 (v9 x.num)):=by
 have hs:=hx.sm hk;have:=Ac7 N (decide (x.num<0)) q q (dg x.num.natAbs) (dg x.den) (hs.1.le (by omega)) (hs.2.le (by omega))
 rwa [JS]at this
theorem AcJ (N:a5 L) (q:Bool) {x y:Rat} {k l:Nat} (hx:Bt k x) (hy:Bt l y) (hk:k<2199023255552) (hl:l<2199023255552):Ev L 99 [.agg (eQ x),.agg (NX q y)] (.agg (eQ (x*y))):=by
 have h1:=hx.sm hk;have h2:=hy.sm hl;have:=Ac6 N 68719476736 (by omega) (decide (x.num<0)) (decide (y.num<0)) false false q q (dg x.num.natAbs) (dg x.den) (dg y.num.natAbs) (dg y.den) h1.1 h1.2 h2.1 h2.2
 rwa [JS,JS]at this
theorem AcP (N:n8 L) (q1 q2 qb:Bool) (a b:List Rat) (k l:Nat) (hl:a.length=b.length) (ha:Bs k a) (hb:Bs l b) (hn:a.length<=64) (hk:k<=1000000000) (np:l<=1000000000):Ev L 297 [.sl q1 (a.map eQ),.sl q2 (b.map (NX qb))] (.agg (eQ (CI a b))):=by
 have hO:=IV N.toa5 0 (by omega);rw[show ((0:Int):Rat)=0 from rfl]at hO;refine Ev.x N.TC rfl rfl ?_;(repeat' ((first|apply BT|apply A2|refine AP (hO) ?_)<;>conv=>whnf))
 refine G6 (λ i=>a.length-i) (λ(i:Nat)=>i<=a.length) (λ i=>[(10,.int .i64 i)]) (λ i=>[(5,5,.bx (eQ (CI (a.take i) (b.take i))))]) [] [] 0 (by rw[show CI (a.take 0) (b.take 0)=0 from rfl];exact (by (conv=>whnf);exact ⟨rfl,rfl,rfl⟩)) (by omega) ?_;intro i p1 ih;by_cases hi:i<a.length
 ·obtain ⟨x,hx⟩ : ∃ x,a[i]? = some x:=⟨_,zE hi⟩
  obtain ⟨y,hy⟩ : ∃ y,b[i]? = some y:=⟨_,zE (by omega)⟩;have nr:a[(i:Int).toNat]? = some x:=hx;have Ai:b[(i:Int).toNat]? = some y:=hy;have ur:=YO N.toa5 (ha.at hx) (by omega);have Dr:=Am0 N.toa5 qb (hb.at hy) (by omega);have hM:=AcJ N.toa5 qb (ha.at hx) (hb.at hy) (by omega) (by omega);have hd:Bt (64*(k+l+1)) (CI (a.take i) (b.take i)):=by
   refine ((ha.take i).dot (hb.take i)).le (zR _ ?_);rw[List.length_take];omega
  have hA:=LK N.toa5 hd ((ha.at hx).mul (hb.at hy)) (by omega) (by omega);rw[<-eI hx hy]at hA;have hz:x=0\/y=0->CI (a.take i) (b.take i)=CI (a.take (i+1)) (b.take (i+1)):=λ h=>by
   rw[eI hx hy];rcases h with h|h<;>rw[h]<;>grind
  by_cases h1:x=0
  ·have s1:v9 x.num=0:=V6.2 h1
   rw[s1]at ur;rw[hz (Or.inl h1)];clear hA hz hd;(repeat' ((first|(apply A9<;>intro hc<;>try omega)|(apply BG;omega)|(refine CN (by assumption) ?_ rfl ?_;omega)|apply A2|refine AP (ur) ?_)<;>conv=>whnf))
   exact CZ [] (ih (i+1) (by omega) (by omega))
  ·have s1:v9 x.num≠0:=λ h=>h1 (V6.1 h)
   generalize v9 x.num=g1 at *;by_cases h2:y=0
   ·have s2:v9 y.num=0:=V6.2 h2
    rw[s2]at Dr;rw[hz (Or.inr h2)];clear hA hz hd;(repeat' ((first|(apply A9<;>intro hc<;>try omega)|(apply BG;omega)|(refine CN (by assumption) ?_ rfl ?_;omega)|apply A2|refine AP (ur) ?_|refine AP (Dr) ?_)<;>conv=>whnf))
    exact CZ [] (ih (i+1) (by omega) (by omega))
   ·have s2:v9 y.num≠0:=λ h=>h2 (V6.1 h)
    generalize v9 y.num=g2 at *;clear hz hd;generalize CI (a.take i) (b.take i)=w at *;generalize x*y=p at *;(repeat' ((first|(apply A9<;>intro hc<;>try omega)|(apply BG;omega)|(refine CN (by assumption) ?_ rfl ?_;omega)|apply A2|refine AP (ur) ?_|refine AP (Dr) ?_|refine AP (hM) ?_|refine AP (hA) ?_)<;>conv=>whnf))
    exact CZ [] (ih (i+1) (by omega) (by omega))
 obtain rfl:i=a.length:=by omega
 clear ih;rw[jN rfl];(repeat' ((first|(apply A9<;>intro hc<;>try omega)|apply A2)<;>conv=>whnf))
 exact BV rfl (GD _)
theorem AcO (N:n8 L) (q1 q2:Bool) (a b:List Rat) (k l:Nat) (hl:a.length=b.length) (ha:Bs k a) (hb:Bs l b) (hn:a.length<=64) (hk:k<=1000000000) (np:l<=1000000000):Ev L 297 [.sl q1 (a.map eQ),.sl q2 (b.map eQ)] (.agg (eQ (CI a b))):=AcP N q1 q2 false a b k l hl ha hb hn hk np
theorem Ams (N:n8 L) (q1 q2 q3:Bool) (a:List (List Rat)) (v:List Rat) (n k l:Nat) (hs:Sq n a) (hv:v.length=n) (ha:Ms k a) (hb:Bs l v) (hn:n<=4) (hk:k<=1000000000) (hl:l<=1000000000):Ev L 298 [.sl q1 (MH q3 a),.sl q2 (v.map eQ)] (.sl false ((GL a v).map eQ)):=by
 have gq:=hs.l;have wy:(GL a v).length=n:=by rw[gB];exact gq
 refine Ev.x N.S4 rfl rfl ?_;(repeat' ((first|apply BT|apply A2)<;>conv=>whnf))
 refine GJ (enc:=eO) none n rfl (by omega) (by omega) ?_;(conv=>whnf)
 (repeat' (apply BT<;>conv=>whnf))
 refine G6 (λ i=>n-i) (λ(i:Nat)=>i<=n) (λ i=>[(12,.int .i64 i)]) (λ i=>[(9,9,.rw 3 ((GU ((GL a v).take i) n).map eO))]) [] [] 0 (by first|exact (by (conv=>whnf);exact ⟨rfl,rfl,rfl⟩)|(rw[List.take_zero,<-QY];exact (by (conv=>whnf);exact ⟨rfl,rfl,rfl⟩))) (by omega) ?_;intro i p1 ih;have kp:((GL a v).take i).length=i:=by rw[List.length_take];omega
 have Pb:=OU (l:=(GL a v).take i) (m:=n) (by omega);by_cases hi:i<n
 ·obtain ⟨r,hr⟩ : ∃ r,a[i]? = some r:=⟨_,zE (by omega)⟩
  have vg:a[(i:Int).toNat]? = some r:=hr;have gj:=hs.at hr;have hy:(GL a v)[i]? = some (CI r v):=by rw[GL,List.getElem?_map,hr];rfl
  have j8:=PZ (l:=(GL a v).take i) (m:=n) (x:=CI r v) (by omega);rw[kp,<-OG hy]at j8;have hD:=λ q q'=>AcO N q q' r v k l (by omega) (ha.at hr) hb (by omega) hk hl
  generalize GU ((GL a v).take i) n=F0 at *;generalize CI r v=y at *;(repeat' ((first|(apply A9<;>intro hc<;>try omega)|(apply B5;omega)|(refine CN (by assumption) ?_ rfl ?_;omega)|apply A2|refine AP (hD _ _) ?_)<;>conv=>whnf))
  refine KS (enc:=eO) (some y) rfl (λ e=>by cases e<;>rfl) (by omega) ?_;(conv=>whnf)
  rw[j8];(repeat' ((first|(apply BG;omega)|fail)<;>conv=>whnf))
  exact CZ [] (ih (i+1) (by omega) (by omega))
 obtain rfl:i=n:=by omega
 clear ih;rw[zT (by omega),QX wy];(repeat' ((first|(apply A9<;>intro hc<;>try omega)|apply A2)<;>conv=>whnf))
 refine FO (enc:=eQ) (λ_=>rfl) rfl wy.symm ?_;(conv=>whnf)
 exact BV rfl (by simp only[B3,true_and];exact LW _)
theorem AlV (N:n7 L) (m:List (List Rat)) (b:List Rat) (q1 q2 q3:Bool) (n k s:Nat) (hs:Sq n m) (hb:b.length=n) (hm:Ms k m) (rz:Bs s b) (hn:n<=4) (hK:4*(k+s+1)+k+s<2199023255552):Ev L 138 [.sl q1 (MH q3 m),.sl q2 (b.map eQ)] (.sl false ((GL m b).map eQ)):=by
 have wy:=hs.l;have iw:=gB m b;refine Ev.x N.VK rfl rfl ?_;(repeat' (apply A2<;>conv=>whnf))
 refine G5 (λ j=>m.length-j) (λ(j:Nat)=>j<=m.length) (λ j=>[(6,.int .i64 j),(5,.row 138005 0 3 0 j)]) (λ j=>[(138005,138005,.rw 3 (((GL m b).take j).map eQ))]) 0 (by omega) ?_;intro j r1 jh;have hlen:((GL m b).take j).length=j:=by rw[List.length_take];omega
 by_cases hj:j<m.length
 ·obtain ⟨r,hr⟩ : ∃ r,m[j]? = some r:=⟨_,zE hj⟩
  have vg:m[(j:Int).toNat]? = some r:=hr;have gj:=hs.at hr;have Hs:=λ q q'=>Acw N r b q q' k s (by omega) (hm.at hr) rz (by rw[gj];have:=zR (k+s+1) hn;omega) (by omega)
  have hy:(GL m b)[j]? = some (CI r b):=by rw[GL,List.getElem?_map,hr];rfl
  have Lq:((GL m b).take (j+1)).length=j+1:=by rw[List.length_take];omega
  (repeat' ((first|(apply A9<;>intro hc<;>try omega)|apply BT|(refine CN (by assumption) ?_ rfl ?_;omega)|apply GY|apply A2|refine AP (Hs _ _) ?_)<;>conv=>whnf))
  refine H8 (enc:=eQ) (CI r b) rfl hlen.symm rfl (by omega) (by omega) ?_;(conv=>whnf)
  (repeat' ((first|(apply BG;omega)|fail)<;>conv=>whnf))
  rw[<-lY hy,Lq];exact CZ [(138005,138021)] (jh (j+1) (by omega) (by omega))
 obtain rfl:j=m.length:=by omega
 clear jh;rw[zT (by omega)];(repeat' ((first|(apply A9<;>intro hc<;>try omega)|apply BT|apply A2)<;>conv=>whnf))
 refine FO (enc:=eQ) (λ_=>rfl) rfl iw.symm ?_;(conv=>whnf)
 exact BV rfl (by simp only[B3,true_and];exact LW _)
end Go.b8

namespace Go.b8
open F
attribute [local irreducible] AJ A3 BU AU FE BR C1 CK DS DE FA G7 DR B2 EH E5 AL CQ BC pw FM E2 F7 G8 GX EG FK EE FZ
attribute [local irreducible] Ah3
variable {L:Lib}
set_option maxHeartbeats 8000000
end Go.b8

namespace Go.b8
open F
attribute [local irreducible] AJ A3 BU AU FE BR C1 CK DS DE FA G7 DR B2 EH E5 AL CQ BC pw FM E2 F7 G8 GX EG FK EE FZ
variable {L:Lib}
set_option maxHeartbeats 16000000
set_option maxRecDepth 8000
theorem AfT {l:List Rat} {i:Nat} {x:Rat} (h:l[i]? = some x):DB (l.take (i+1))=DB (l.take i)+CU x:=by rw[OG h,AfS]
theorem AcT (N:n8 L) (q:Bool) (v:List Rat) (k:Nat) (hv:Bs k v) (hn:v.length<=1000) (hk:k<=1000000000):Ev L 300 [.sl q (v.map eQ)] (.agg (eQ (DB v))):=by
 have hO:=IV N.toa5 0 (by omega);rw[show ((0:Int):Rat)=0 from rfl]at hO;refine Ev.x N.TM rfl rfl ?_;(repeat' ((first|apply BT|apply A2|refine AP (hO) ?_)<;>conv=>whnf))
 refine G6 (λ i=>v.length-i) (λ(i:Nat)=>i<=v.length) (λ i=>[(9,.int .i64 i)]) (λ i=>[(3,3,.bx (eQ (DB (v.take i))))]) [] [] 0 (by rw[show DB (v.take 0)=0 from rfl];exact (by (conv=>whnf);exact ⟨rfl,rfl,rfl⟩)) (by omega) ?_;intro i p1 ih;by_cases hi:i<v.length
 ·obtain ⟨x,hx⟩ : ∃ x,v[i]? = some x:=⟨_,zE hi⟩
  have nr:v[(i:Int).toNat]? = some x:=hx;have hA:=jS N.tobq (hv.at hx) (by omega);have hz:Bt (1000*(k+1)) (DB (v.take i)):=(XW (hv.take i)).le (zR _ (by rw[List.length_take];omega));have hP:=LK N.toa5 hz (ME (hv.at hx)) (by omega) (by omega);rw[<-AfT hx]at hP;generalize DB (v.take i)=w at *;generalize CU x=y at *;(repeat' ((first|(apply A9<;>intro hc<;>try omega)|(apply BG;omega)|(refine CN (by assumption) ?_ rfl ?_;omega)|apply A2|refine AP (hA) ?_|refine AP (hP) ?_)<;>conv=>whnf))
  exact CZ [] (ih (i+1) (by omega) (by omega))
 obtain rfl:i=v.length:=by omega
 clear ih;rw[zT (Nat.le_refl _)];(repeat' ((first|(apply A9<;>intro hc<;>try omega)|apply A2)<;>conv=>whnf))
 exact BV rfl (GD _)
theorem AdL {l:List Rat} {i:Nat} {x:Rat} (h:l[i]? = some x):E6 (l.take (i+1))=LZ (E6 (l.take i)) x:=by rw[OG h,Any]
theorem XV {x y:Rat}:0<v9 (x-y).num↔y<x:=by
 have h:=zD (x-y).num;have e1:(x-y).num<0↔x<y:=by rw[xT];constructor<;>intro h<;>grind
 have e2:(x-y).num=0↔x=y:=by rw[Rat.num_eq_zero];constructor<;>intro h<;>grind
 rcases h with ⟨h1,h2⟩|⟨h1,h2⟩|⟨h1,h2⟩
 ·have:=e1.1 h2
  rw[h1];constructor
  ·intro h;omega
  ·intro h;grind
 ·have:=e2.1 h2
  rw[h1];constructor
  ·intro h;omega
  ·intro h;grind
 ·have h3 : ¬ x<y:=λ h=>by have:=e1.2 h;omega
  have h4 : ¬ x=y:=λ h=>by have:=e2.2 h;omega
  rw[h1];constructor
  ·intro _;grind
  ·intro _;omega
theorem Amu (N:n8 L) (q:Bool) (v:List Rat) (k:Nat) (hv:Bs k v) (hn:v.length<=1000000) (hk:k<=1000000000000):Ev L 301 [.sl q (v.map eQ)] (.agg (eQ (E6 v))):=by
 have hO:=IV N.toa5 0 (by omega);rw[show ((0:Int):Rat)=0 from rfl]at hO;refine Ev.x N.TG rfl rfl ?_;(repeat' ((first|apply BT|apply A2|refine AP (hO) ?_)<;>conv=>whnf))
 refine G6 (λ i=>v.length-i) (λ(i:Nat)=>i<=v.length) (λ i=>[(10,.int .i64 i)]) (λ i=>[(3,3,.bx (eQ (E6 (v.take i))))]) [] [] 0 (by rw[show E6 (v.take 0)=0 from rfl];exact (by (conv=>whnf);exact ⟨rfl,rfl,rfl⟩)) (by omega) ?_;intro i p1 ih;by_cases hi:i<v.length
 ·obtain ⟨x,hx⟩ : ∃ x,v[i]? = some x:=⟨_,zE hi⟩
  have nr:v[(i:Int).toNat]? = some x:=hx;have hA:=jS N.tobq (hv.at hx) (by omega);have hC:=jU N.tow9 (ME (hv.at hx)) (XG (hv.take i)) (by omega) (by omega);have hg:=XV (x:=CU x) (y:=E6 (v.take i));have hs:E6 (v.take (i+1))=if E6 (v.take i)<CU x then CU x else E6 (v.take i):=AdL hx
  by_cases h:E6 (v.take i)<CU x
  ·rw[if_pos h]at hs
   have h1:=hg.2 h;rw[<-hs]at hA hC h1;generalize v9 (E6 (v.take (i+1))-E6 (v.take i)).num=g at *;(repeat' ((first|(apply A9<;>intro hc<;>try omega)|(apply BG;omega)|(refine CN (by assumption) ?_ rfl ?_;omega)|apply A2|refine AP (hA) ?_|refine AP (hC) ?_)<;>conv=>whnf))
   exact CZ [] (ih (i+1) (by omega) (by omega))
  ·rw[if_neg h]at hs
   have h1 : ¬ 0<v9 (CU x-E6 (v.take i)).num:=λ e=>h (hg.1 e)
   rw[<-hs]at hC h1 ⊢;clear hg h hs;generalize v9 (CU x-E6 (v.take (i+1))).num=g at *;generalize CU x=y at *;(repeat' ((first|(apply A9<;>intro hc<;>try omega)|(apply BG;omega)|(refine CN (by assumption) ?_ rfl ?_;omega)|apply A2|refine AP (hA) ?_|refine AP (hC) ?_)<;>conv=>whnf))
   exact CZ [] (ih (i+1) (by omega) (by omega))
 obtain rfl:i=v.length:=by omega
 clear ih;rw[zT (Nat.le_refl _)];(repeat' ((first|(apply A9<;>intro hc<;>try omega)|apply A2)<;>conv=>whnf))
 exact BV rfl (GD _)
theorem Amt (N:n8 L) (q q':Bool) (a:List (List Rat)) (D:Rat) (n k l:Nat) (hs:Sq n a) (ha:Ms k a) (hD:Bt l D) (hn:n<=16) (hk:k<=1000000000) (hl:l<=1000000000):Ev L 302 [.sl q (MH q' a),.agg (eQ D)] (.bool (decide (∀ r∈a,DB r+DB r<=D))):=by
 have gq:=hs.l;refine Ev.x N.TA rfl rfl ?_;(repeat' ((first|apply BT|apply A2)<;>conv=>whnf))
 refine G5 (λ i=>n-i) (λ(i:Nat)=>i<=n /\ ∀ r∈a.take i,DB r+DB r<=D) (λ i=>[(10,.int .i64 i)]) (λ_=>[]) 0 ⟨by omega,λ r hr=>by cases hr⟩ ?_;intro i ⟨p1,p2⟩ ih;by_cases hi:i<n
 ·obtain ⟨r,hr⟩ : ∃ r,a[i]? = some r:=⟨_,zE (by omega)⟩
  have vg:a[(i:Int).toNat]? = some r:=hr;have gj:=hs.at hr;have hT:=λ q=>AcT N q r k (ha.at hr) (by omega) hk
  have hz:Bt (16*(k+1)) (DB r):=(XW (ha.at hr)).le (zR _ (by omega));have hP:=LK N.toa5 hz hz (by omega) (by omega);have hC:=jU N.tow9 (hz.add hz) hD (by omega) (by omega);have hg:=XV (x:=DB r+DB r) (y:=D);by_cases h:D<DB r+DB r
  ·have iu : ¬ ∀ r∈a,DB r+DB r<=D:=λ e=>by
    have:=e r (zM hr)
    grind
   have:=hg.2 h
   rw[decide_eq_false iu];clear iu p2 ih hz h hg;generalize v9 (DB r+DB r-D).num=g at *;generalize DB r+DB r=w at *;generalize DB r=z at *;(repeat' ((first|(apply A9<;>intro hc<;>try omega)|(refine CN (by assumption) ?_ rfl ?_;omega)|apply A2|refine AP (hT _) ?_|refine AP (hP) ?_|refine AP (hC) ?_)<;>conv=>whnf))
   exact JO rfl
  ·have Xd : ∀ r∈a.take (i+1),DB r+DB r<=D:=λ s hs=>by
    rw[OG hr]at hs;rcases List.mem_append.1 hs with hs|hs
    ·exact p2 s hs
    ·obtain rfl:=List.mem_singleton.1 hs
     grind
   have : ¬ 0<v9 (DB r+DB r-D).num:=λ e=>h (hg.1 e)
   clear p2 hz h hg;generalize v9 (DB r+DB r-D).num=g at *;generalize DB r+DB r=w at *;generalize DB r=z at *;(repeat' ((first|(apply A9<;>intro hc<;>try omega)|(apply BG;omega)|(refine CN (by assumption) ?_ rfl ?_;omega)|apply A2|refine AP (hT _) ?_|refine AP (hP) ?_|refine AP (hC) ?_)<;>conv=>whnf))
   exact CZ [] (ih (i+1) (by omega) ⟨by omega,Xd⟩)
 obtain rfl:i=n:=by omega
 clear ih;rw[zT (by omega)]at p2;rw[decide_eq_true p2];(repeat' ((first|(apply A9<;>intro hc<;>try omega)|apply A2)<;>conv=>whnf))
 exact JO rfl
theorem AeH {α:Type} {a b:List α} {j:Nat} {y:α} (hl:a.length=b.length) (hy:a[j]? = some y):(a.take j++b.drop j).set j y=a.take (j+1)++b.drop (j+1):=by
 have h:=(zS hy).1;rw[List.set_append_right _ _ (by rw[List.length_take];omega),List.length_take,Nat.min_eq_left (by omega),Nat.sub_self,List.drop_eq_getElem_cons (by omega),List.set_cons_zero,List.take_add_one,hy,Option.toList_some,List.append_assoc];rfl
def MR (Q:List (List Rat)) (n j:Nat):List (Option (Nat × List (List AV))):=Q.map λ r=>some (3,(GU (r.take j) n).map eO)
def PW (Q:List (List Rat)) (n j m:Nat):List (Option (Nat × List (List AV))):=(MR Q n (j+1)).take m++(MR Q n j).drop m
theorem YH (Q:List (List Rat)) (n j:Nat):(MR Q n j).length=Q.length:=by simp [MR]
theorem Aj1 (Q:List (List Rat)) (n j:Nat):PW Q n j 0=MR Q n j:=by simp [PW]
theorem AjY (Q:List (List Rat)) (n j:Nat):PW Q n j Q.length=MR Q n (j+1):=by
 rw[PW,zT (by rw[YH];exact Nat.le_refl _),List.drop_of_length_le (by rw[YH];exact Nat.le_refl _),List.append_nil]
theorem AjZ {Q:List (List Rat)} {n j m:Nat} (h:m<=Q.length):(PW Q n j m).length=Q.length:=by
 rw[PW,List.length_append,List.length_take,List.length_drop,YH,YH];omega
theorem AjX {Q:List (List Rat)} {n j m:Nat} {r:List Rat} (hr:Q[m]? = some r):(PW Q n j m)[m]? = some (some (3,(GU (r.take j) n).map eO)):=by
 have h:=(zS hr).1;rw[PW,List.getElem?_append_right (by rw[List.length_take,YH];omega),List.length_take,YH,Nat.min_eq_left (by omega),Nat.sub_self,List.getElem?_drop,Nat.add_zero,MR,List.getElem?_map,hr];rfl
theorem Aj0 {Q:List (List Rat)} {n j m:Nat} {r:List Rat} (hr:Q[m]? = some r):(PW Q n j m).set m (some (3,(GU (r.take (j+1)) n).map eO))=PW Q n j (m+1):=by
 have h:=(zS hr).1;exact AeH (by rw[YH,YH]) (by rw[MR,List.getElem?_map,hr];rfl)
theorem Aid {R:List (Option (Nat × List (List AV)))} {i z:Nat} {es:List (List AV)} {K:Nat->List (List AV)->Prop} (h:R[i]? = some (some (z,es))) (hk:K z es):E2 R i K:=by
 unfold E2;exact ⟨z,es,h,hk⟩
theorem Aj2 {Q:List (List Rat)} {n:Nat} (h : ∀ r∈Q,r.length=n):MR Q n n=HA 3 eQ Q:=by
 refine List.map_congr_left λ r hr => ?_
 have:=h r hr
 rw[zT (by omega),QX this]
theorem Amv (N:n8 L) (q q':Bool) (a:List (List Rat)) (n k:Nat) (hs:Sq n a) (ha:Ms k a) (hn:n<=4) (hk:k<=1000000000):Ev L 299 [.sl q (MH q' a)] (.sl false (eM (K7 a a n))):=by
 have gq:=hs.l;have Ke:Sq n (K7 a a n):=Sq.mul hs.l a;have So : ∀ (i:Nat) (r:List Rat),a[i]? = some r->(K7 a a n)[i]? = some (IC r a n):=λ i r hr=>by rw[K7,List.getElem?_map,hr];rfl
 have Ns : ∀ (j:Nat) (r:List Rat),j<n->(IC r a n)[j]? = some (CI r (GK a j)):=λ j r hj=>by rw[IC,List.getElem?_map,List.getElem?_range hj];rfl
 have Ez:=Ke.l;have Nr:=Ke.r;generalize K7 a a n=Q at *;refine Ev.x N.TJ rfl rfl ?_;(repeat' ((first|apply BT|apply A2)<;>conv=>whnf))
 unfold GX;refine ⟨⟨by omega,by omega,by simp only[I3];omega,by omega⟩,?_⟩;rw[Int.toNat_natCast,gq];(conv=>whnf)
 skip
 have vf:=YH Q n 0;have Nk : ∀ i,i<n->(MR Q n 0)[i]? = some (some (3,(List.replicate n (none:Option Rat)).map eO)):=λ i hi=>by
  rw[MR,List.getElem?_map,zE (by omega),Option.map_some,List.take_zero,QY]
 refine G6 (λ i=>n-i) (λ(i:Nat)=>i<=n) (λ i=>[(15,.int .i64 i)]) (λ i=>[(13,13,.mx (fz none ((MR Q n 0).take i) n))]) [] [] 0 (by first|exact (by (conv=>whnf);exact ⟨rfl,rfl,rfl⟩)|(rw[List.take_zero,show fz (none:Option (Nat × List (List AV))) [] n=List.replicate n none by simp [fz]];exact (by (conv=>whnf);exact ⟨rfl,rfl,rfl⟩))) (by omega) ?_;intro i p1 ih;have kp:((MR Q n 0).take i).length=i:=by rw[List.length_take];omega
 have jf:=fG (z:=(none:Option (Nat × List (List AV)))) (l:=(MR Q n 0).take i) (m:=n) (by omega);by_cases hi:i<n
 ·have yz:=fH (z:=(none:Option (Nat × List (List AV)))) (x:=some (3,(List.replicate n (none:Option Rat)).map eO)) (l:=(MR Q n 0).take i) (m:=n) (by omega)
  rw[kp,<-OG (Nk i hi)]at yz;generalize fz (none:Option (Nat × List (List AV))) ((MR Q n 0).take i) n=J at *;(repeat' ((first|(apply A9<;>intro hc<;>try omega)|apply A2)<;>conv=>whnf))
  refine GJ (enc:=eO) none n rfl rfl (by omega) ?_;(conv=>whnf)
  (repeat' ((first|(apply B5;omega)|fail)<;>conv=>whnf))
  unfold BU F7;refine ⟨by simp,by omega,?_⟩;(conv=>whnf)
  rw[show 0+((i:Int)).toNat=i by omega,yz];(repeat' ((first|(apply BG;omega)|fail)<;>conv=>whnf))
  exact CZ [] (ih (i+1) (by omega) (by omega))
 have ei:i=n:=by omega
 clear ih jf;rw[ei,zT (by omega),fE (by omega)];(repeat' ((first|(apply A9<;>intro hc<;>try omega)|apply A2)<;>conv=>whnf))
 refine GJ (enc:=eO) none n rfl rfl (by omega) ?_;(conv=>whnf)
 skip
 refine IX (λ j _=>n-j) (λ(j:Nat) (C:List (Option Rat))=>j<=n/\C.length=n) (λ j _=>[(27,.int .i64 j)]) (λ j C=>[(25,25,.rw 3 (C.map eO)),(13,13,.mx (MR Q n j))]) 0 (List.replicate n none) ⟨by omega,by simp⟩ ?_;intro j C ⟨r1,r2⟩ jh;by_cases hj:j<n
 ·have o6:(GK a j).length=n:=by rw[AjV];exact gq
  have AI7:((GK a j).map some).length=n:=by rw[List.length_map];exact o6
  (repeat' ((first|(apply A9<;>intro hc<;>try omega)|apply A2)<;>conv=>whnf))
  refine G6 (λ i=>n-i) (λ(i:Nat)=>i<=n) (λ i=>[(31,.int .i64 i)]) (λ i=>[(25,25,.rw 3 ((((GK a j).map some).take i++C.drop i).map eO))]) [] [] 0 (by rw[List.take_zero,List.drop_zero,List.nil_append];exact (by (conv=>whnf);exact ⟨rfl,rfl,rfl⟩)) (by omega) ?_;intro i2 s1 kh;have wy:(((GK a j).map some).take i2++C.drop i2).length=n:=by rw[List.length_append,List.length_take,List.length_drop];omega
  by_cases wx:i2<n
  ·obtain ⟨r,hr⟩ : ∃ r,a[i2]? = some r:=⟨_,zE (by omega)⟩
   have gj:=hs.at hr;obtain ⟨x,hx⟩ : ∃ x,r[j]? = some x:=⟨_,zE (by omega)⟩;have vg:a[(i2:Int).toNat]? = some r:=hr;have nr:r[(j:Int).toNat]? = some x:=hx;have hcx:((GK a j).map some)[i2]? = some (some x):=by
    rw[List.getElem?_map,GK,List.getElem?_map,hr];simp only[Option.map_some,List.getD_eq_getElem?_getD,hx,Option.getD_some]
   have j8:=AeH (a:=(GK a j).map some) (b:=C) (by omega) hcx;generalize ((GK a j).map some).take i2++C.drop i2=W at *;(repeat' ((first|(apply A9<;>intro hc<;>try omega)|(apply B5;omega)|(refine CN (by assumption) ?_ rfl ?_;omega)|apply A2)<;>conv=>whnf))
   refine KS (enc:=eO) (some x) rfl (λ e=>by cases e<;>rfl) (by omega) ?_;(conv=>whnf)
   rw[j8];(repeat' ((first|(apply BG;omega)|fail)<;>conv=>whnf))
   exact CZ [] (kh (i2+1) (by omega) (by omega))
  obtain rfl:i2=n:=by omega
  clear kh wy;rw[zT (by omega),List.drop_of_length_le (by omega),List.append_nil,show ((GK a j).map some).map eO=(GK a j).map eQ by rw[List.map_map];rfl];(repeat' ((first|(apply A9<;>intro hc<;>try omega)|apply A2)<;>conv=>whnf))
  refine G6 (λ i=>i2-i) (λ(i:Nat)=>i<=i2) (λ i=>[(46,.int .i64 i)]) (λ i=>[(13,13,.mx (PW Q i2 j i))]) [] [] 0 (by rw[Aj1];exact (by (conv=>whnf);exact ⟨rfl,rfl,rfl⟩)) (by omega) ?_;intro i3 s2 lh;have wy:=AjZ (Q:=Q) (n:=i2) (j:=j) (m:=i3) (by omega);by_cases Ie:i3<i2
  ·obtain ⟨r,hr⟩ : ∃ r,a[i3]? = some r:=⟨_,zE (by omega)⟩
   have gj:=hs.at hr;have vg:a[(i3:Int).toNat]? = some r:=hr;have hq:=So i3 r hr;have nm:=AjX (n:=i2) (j:=j) hq;have jl:=Aj0 (n:=i2) (j:=j) hq;have hxx:=Ns j r hj;have Wc:(IC r a i2).length=i2:=Nr _ (zM hq);have Mn:((IC r a i2).take j).length=j:=by rw[List.length_take];omega
   have yz:=PZ (l:=(IC r a i2).take j) (m:=i2) (x:=CI r (GK a j)) (by omega);rw[Mn,<-OG hxx]at yz;have jf:=OU (l:=(IC r a i2).take j) (m:=i2) (by omega);rw[<-yz]at jl;have hD:=λ q q'=>AcO N q q' r (GK a j) k k (by omega) (ha.at hr) (Ms.Rk ha j) (by omega) hk hk
   clear hq hxx yz Mn Wc;generalize GU ((IC r a i2).take j) i2=W at *;generalize CI r (GK a j)=y at *;generalize PW Q i2 j i3=R0 at *;(repeat' ((first|(apply A9<;>intro hc<;>try omega)|(apply B5;omega)|apply A2)<;>conv=>whnf))
   refine mO (r:=some (3,W.map eO)) (by rw[Nat.zero_add,Int.toNat_natCast];exact nm) ?_;(conv=>whnf)
   (repeat' ((first|(refine CN (by assumption) ?_ rfl ?_;omega)|fail)<;>conv=>whnf))
   refine FO (enc:=eQ) (λ_=>rfl) rfl o6.symm ?_;(conv=>whnf)
   (repeat' (refine AP (hD _ _) ?_<;>conv=>whnf))
   refine B5 (by rw[List.length_map];omega) ?_;(conv=>whnf)
   skip
   refine Aid (z:=3) (es:=W.map eO) (by rw[Nat.zero_add,Int.toNat_natCast];exact nm) ?_;(conv=>whnf)
   refine KS (enc:=eO) (some y) rfl (λ e=>by cases e<;>rfl) (by omega) ?_;(conv=>whnf)
   unfold G8;refine ⟨by rw[List.length_map,List.length_map,List.length_set],?_⟩;rw[show 0+((i3:Int)).toNat=i3 by omega,jl];(conv=>whnf)
   (repeat' ((first|(apply BG;omega)|fail)<;>conv=>whnf))
   exact CZ [] (lh (i3+1) (by omega) (by omega))
  obtain rfl:i3=i2:=by omega
  clear lh wy;have Dx:=AjY Q i3 j;rw[Ez]at Dx;rw[Dx];(repeat' ((first|(apply A9<;>intro hc<;>try omega)|(apply BG;omega)|apply A2)<;>conv=>whnf))
  rw[show (GK a j).map eQ=((GK a j).map some).map eO by rw[List.map_map];rfl];exact CZ [] (jh (j+1) ((GK a j).map some) (by omega) ⟨by omega,by rw[List.length_map];exact o6⟩)
 have ej:j=n:=by omega
 clear jh;rw[ej,Aj2 Nr];(repeat' ((first|(apply A9<;>intro hc<;>try omega)|apply A2)<;>conv=>whnf))
 refine WX (λ_=>rfl) rfl (by omega) ?_;(conv=>whnf)
 exact BV rfl (Abn Q)
abbrev MG (q:Bool) (R:List (List Rat)) (D:Rat) (p:Int) (T:Rat):List AV:=[.sl false (MH q R)]++eQ D++[.int .i64 p]++eQ T
theorem tJ (R:List (List Rat)) (D:Rat) (p:Int) (T:Rat) (e:Int):B3 (.g8 [.agg (MG false R D p T),.int .i64 e]):=by
 have h1:=tL R;have h2:=GD D;have h3:=GD T;simp only[B3,EC,true_and,and_true,MG,List.cons_append,List.nil_append]at h1 h2 h3 ⊢;exact ⟨h1,h2.1,h2.2,h3.1,h3.2⟩
theorem YY {i:Nat} (h:i<=6):2^i<=64/\(2^i=64->i=6)/\1<=2^i:=by
 obtain rfl|rfl|rfl|rfl|rfl|rfl|rfl:i=0\/i=1\/i=2\/i=3\/i=4\/i=5\/i=6:=by omega
 all_goals decide
theorem qG {D:Rat} {d:Nat} (h:Bt d D) : ∀ j:Nat,Bt (j*d) (D^j)
 | 0=>by rw[Rat.pow_zero];exact Bt.one _
 | j+1=>by
  rw[Rat.pow_succ];exact ((qG h j).mul h).le (by rw[Nat.succ_mul];omega)
theorem cI {S M:Nat} (h:S<=2^M):Bt M (S:Rat):=by
 refine ⟨?_,?_⟩
 ·rw[Rat.num_natCast,Int.natAbs_natCast];exact h
 ·rw[Rat.den_natCast];exact Nat.one_le_two_pow
theorem XQ {S:Nat} (h:0<S):(0:Rat)<(S:Rat):=by
 have:=Rat.natCast_lt_natCast.2 h
 exact this
theorem AcS (N:n8 L) (q q':Bool) (a:List (List Rat)) (n k:Nat) (hs:Sq n a) (ha:Ms k a) (hn:n<=4) (hk:k<=100000) :
  ∃ v,Ev L 303 [.sl q (MH q' a)] v/\((∃ i,i<=6/\LG n a i/\v = .g8 [.agg (MG false (EW (LA a.flatten) a) (LA a.flatten) ((2^i:Nat):Int) (LA a.flatten^(2^i+2^i-1))),.int .i64 0]) \/
   ((∀ j,j<=6->G0 (EJ n a j)=false)/\v = .g8 [.agg [.sl false [],.bool false,.sl false [],.sl false [],.int .i64 0,.bool false,.sl false [],.sl false []],.int .i64 14])):=by
 have gq:=hs.l;have Cf:n*n<=4*4:=Nat.mul_le_mul hn hn;have Gl:n*n*k<=16*k:=zR k Cf;have jf:a.flatten.length<=64:=by
  have : ∀ (a:List (List Rat)),(∀ r∈a,r.length=n)->a.flatten.length=a.length*n:=by
   intro a;induction a with
   | nil=>intro _;simp
   | cons r a ih =>
    intro h;rw[List.flatten_cons,List.length_append,ih λ x hx=>h x (List.mem_cons_of_mem _ hx),h r List.mem_cons_self,List.length_cons,Nat.succ_mul,Nat.add_comm]
  rw[this a hs.r,gq];omega
 have rq:=jX N q q' a k ha jf (by omega) (by omega);have hO:=IV N.toa5 1 (by omega);rw[show ((1:Int):Rat)=1 from rfl]at hO;obtain ⟨D0,eD,d1,d2,d3⟩:=lN hs ha;have yi:Bt (16*k) (D0:Rat):=cI (Nat.le_trans d2 (Nat.pow_le_pow_right (by omega) Gl));have hDp:(0:Rat)<(D0:Rat):=XQ d1;have hDN:=uH (Nat.le_trans d2 (Nat.pow_le_pow_right (by omega) Gl));have hRW:=rH hs hn d3;rw[eD]at rq ⊢;generalize (D0:Rat)=D at *;clear eD d1 d2 d3;have Fj:(EW D a).length=n:=by rw[AfV];exact gq
 have Sy : ∀ (i:Nat) (r:List Rat),a[i]? = some r->(EW D a)[i]? = some (r.map (· * D)):=λ i r hr=>AqC hr
 have zw : ∀ i,Sq n (EW (HE D i) (EJ n a i)):=λ i=>zI _ (aH hs i)
 have Az : ∀ i,i<=6->Ms 300000000 (EW (HE D i) (EJ n a i)):=λ i hi r hr x hx=>((hRW i r hr x hx).le (by have:=Ahi (k:=k) i (by omega);omega)).bt
 have br : ∀ i,i<=6->Bt 300000000 (HE D i):=λ i hi=>((hDN i).le (by
  have:=(YY hi).1
  have:=zR (16*k) this
  omega)).bt
 have hCt:=λ(i:Nat) (q q':Bool) (hi:i<=6)=>Amt N q q' (EW (HE D i) (EJ n a i)) (HE D i) n 300000000 300000000 (zw i) (Az i hi) (br i hi) (by omega) (by omega) (by omega)
 have Ki:=λ(i:Nat) (q q':Bool) (hi:i<=6)=>Amv N q q' (EW (HE D i) (EJ n a i)) n 300000000 (zw i) (Az i hi) hn (by omega)
 have hMD:=λ(i:Nat) (hi:i<=6)=>LL N.toa5 (br i hi) (br i hi) (by omega) (by omega)
 have j8 : ∀ i,K7 (EW (HE D i) (EJ n a i)) (EW (HE D i) (EJ n a i)) n=EW (HE D (i+1)) (EJ n a (i+1)):=λ i=>Af9 n a D i
 have hci : ∀ i,(∀ r∈EW (HE D i) (EJ n a i),DB r+DB r<=HE D i)↔G0 (EJ n a i)=true:=λ i=>Aj9 hDp
 have hLs:=λ(j:Nat) (hj:j<=128)=>LL N.toa5 (qG yi j) yi (show j*(16*k)<2199023255552 by
  have:=zR (16*k) hj
  omega) (by omega)
 have Lc : ∀ (i:Nat) (q q':Bool),i<=6->Ev L 302 [.sl q (MH q' (EW (HE D i) (EJ n a i))),.agg (eQ (HE D i))] (.bool (G0 (EJ n a i))):=λ i q q' hi=>by
  have:=hCt i q q' hi
  rwa [show decide (∀ r∈EW (HE D i) (EJ n a i),DB r+DB r<=HE D i)=G0 (EJ n a i) by rw[Bool.eq_iff_iff,decide_eq_true_iff];exact hci i]at this
 have Kf : ∀ (i:Nat) (q q':Bool),i<=6->Ev L 299 [.sl q (MH q' (EW (HE D i) (EJ n a i)))] (.sl false (eM (EW (HE D (i+1)) (EJ n a (i+1))))):=λ i q q' hi=>by
  have:=Ki i q q' hi
  rwa [j8]at this
 have nb : ∀ i,i<=6->Ev L 99 [.agg (eQ (HE D i)),.agg (eQ (HE D i))] (.agg (eQ (HE D (i+1)))):=hMD;have Si : ∀ j:Nat,j<=128->Ev L 99 [.agg (eQ (D^j)),.agg (eQ D)] (.agg (eQ (D^(j+1)))):=λ j hj=>by
  have:=hLs j hj
  rwa [<-Rat.pow_succ]at this
 have vp : ∀ q q':Bool,Ev L 302 [.sl q (MH q' (EW D a)),.agg (eQ D)] (.bool (G0 (EJ n a 0))):=λ q q'=>Lc 0 q q' (by omega)
 have Sr : ∀ q q':Bool,Ev L 299 [.sl q (MH q' (EW D a))] (.sl false (eM (EW (HE D 1) (EJ n a 1)))):=λ q q'=>Kf 0 q q' (by omega)
 have Ka:Ev L 99 [.agg (eQ D),.agg (eQ D)] (.agg (eQ (HE D 1))):=nb 0 (by omega);clear hCt Ki hMD hLs j8 hci Az br zw hRW hDN;refine Ev.xE N.TK rfl rfl ?_;by_cases h0:n=0
 ·obtain rfl:a=[]:=List.length_eq_zero_iff.1 (by omega)
  have hb:G0 (EJ n [] 0)=true:=rfl;have uo:=vp false false;rw[hb]at uo;have hC2:Ev L 302 [.sl false [],.agg (eQ D)] (.bool true):=uo;have hP0:=Si 0 (by omega);rw[Rat.pow_zero]at hP0;(repeat' ((first|apply BT|apply A2|refine AP (rq) ?_|refine AP (hO) ?_)<;>conv=>whnf))
  refine JN ?_;(repeat' ((first|(apply A9<;>intro hc<;>try omega)|apply A2)<;>conv=>whnf))
  refine JN ?_;(repeat' ((first|(apply DQ;omega)|(apply I8;omega)|apply A2|refine AP (hC2) ?_)<;>conv=>whnf))
  refine JN ?_;(repeat' ((first|(apply A9<;>intro hc<;>try omega)|(apply BG;omega)|apply A2|refine AP (hP0) ?_)<;>conv=>whnf))
  refine JN ?_;(repeat' ((first|(apply A9<;>intro hc<;>try omega)|apply A2)<;>conv=>whnf))
  refine ⟨.g8 [.agg (MG false [] D 1 (D^1)),.int .i64 0],?_,Or.inl ⟨0,by omega,⟨rfl,λ j hj=>absurd hj (by omega)⟩,rfl⟩⟩;exact BV rfl (tJ [] D 1 (D^1) 0)
 (repeat' ((first|apply BT|apply A2|refine AP (rq) ?_|refine AP (hO) ?_)<;>conv=>whnf))
 refine IX (λ i _=>n-i) (λ(i:Nat) (fl:Bool)=>i<=n/\fl=decide (i=0)) (λ i _=>[(15,.int .i64 i)]) (λ i fl=>bif fl then [] else [(4,4,.bx ([.row 1000 0 1 0 i]++eQ D++[.int .i64 1]++eQ 1)),(1000,26,.rw 1 (((EW D a).take i).map λ r=>[AV.sl false (r.map eQ)]))]) 0 true ⟨by omega,rfl⟩ ?_;intro i fl ⟨p1,p2⟩ ih;have gj:((EW D a).take i).length=i:=by rw[List.length_take];omega
 by_cases hi:i<n
 ·obtain ⟨r,hr⟩ : ∃ r,a[i]? = some r:=⟨_,zE (by omega)⟩
  have vg:a[(i:Int).toNat]? = some r:=hr;have iv:=hs.at hr;have Ob:=λ q=>jY N q r D k (16*k) (ha.at hr) yi (by omega) (by omega) (by omega)
  have nm:=Sy i r hr;generalize r.map (· * D)=w at *;cases fl
  ·have vb:i≠0:=by simpa using p2.symm
   (repeat' ((first|(apply A9<;>intro hc<;>try omega)|(refine CN (by assumption) ?_ rfl ?_;omega)|apply GY|apply A2|refine AP (Ob _) ?_)<;>conv=>whnf))
   refine H8 (l:=(EW D a).take i) (z:=1) (bytes:=24) (enc:=λ r:List Rat=>[AV.sl false (r.map eQ)]) w rfl gj.symm rfl (by omega) (by omega) ?_;(conv=>whnf)
   (repeat' ((first|(apply BG;omega)|fail)<;>conv=>whnf))
   rw[<-OG nm,show ((EW D a).take (i+1)).length=i+1 by rw[List.length_take];omega];exact CZ [(1000,26)] (ih (i+1) false (by omega) ⟨by omega,by simp⟩)
  ·have vb:i=0:=by simpa using p2.symm
   subst vb;(repeat' ((first|(apply A9<;>intro hc<;>try omega)|(refine CN (by assumption) ?_ rfl ?_;omega)|apply GY|apply A2|refine AP (Ob _) ?_)<;>conv=>whnf))
   refine ZF (enc:=λ r:List Rat=>[AV.sl false (r.map eQ)]) w rfl rfl (by omega) ?_;(conv=>whnf)
   (repeat' ((first|(apply BG;omega)|fail)<;>conv=>whnf))
   rw[show [w]=(EW D a).take (0+1) by rw[OG nm];rfl];exact CZ [(1000,26)] (ih 1 false (by omega) ⟨by omega,by simp⟩)
 have ei:i=n:=by omega
 obtain rfl:fl=false:=by rw[p2];simp;omega
 clear ih p2 gj;rw[ei,zT (by omega)];(repeat' ((first|(apply A9<;>intro hc<;>try omega)|apply A2)<;>conv=>whnf))
 refine IX (λ i _=>7-i) (λ(i:Nat) (fl:Bool)=>i<=6/\(fl=true->i=0) /\ ∀ j,j<i->G0 (EJ n a j)=false) (λ i fl=>[(7,bif fl then .row 1000 0 1 0 n else .sl false (eM (EW (HE D i) (EJ n a i))))]) (λ i _=>[(8,8,.bx (eQ (HE D i))),(4,4,.bx ([.row 1000 0 1 0 n]++eQ D++[.int .i64 ((2^i:Nat):Int)]++eQ 1))]) 0 true ⟨by omega,λ_=>rfl,λ j hj=>absurd hj (by omega)⟩ ?_;intro i fl ⟨s1,s2,s3⟩ jh;obtain ⟨g1,g2,g3⟩:=YY s1;have xb:((2^(i+1):Nat):Int)=((2^i:Nat):Int)*2:=by rw[Nat.pow_succ];omega
 have Lf:=λ q q'=>Lc i q q' s1
 have Cm:=λ q q'=>Kf i q q' s1
 have hmi:=nb i s1;cases hb:G0 (EJ n a i)
 ·rw[hb]at Lf
  by_cases h6:i=6
  ·have e64:((2^i:Nat):Int)=64:=by rw[h6];rfl
   have tv : ∀ j,j<=6->G0 (EJ n a j)=false:=λ j hj=>by
    by_cases h:j=6
    ·rw[h,<-h6];exact hb
    ·exact s3 j (by omega)
   cases fl
   ·rw[e64]
    (repeat' ((first|(apply A9<;>intro hc<;>try omega)|apply A2|refine AP (Lf _ _) ?_)<;>conv=>whnf))
    exact ⟨_,BV rfl (by simp [B3,EC,IH]),Or.inr ⟨tv,rfl⟩⟩
   ·exact absurd (s2 rfl) (by omega)
  ·have AJI:((2^i:Nat):Int)≠64:=λ e=>h6 (g2 (by omega))
   have fm : ∀ j,j<i+1->G0 (EJ n a j)=false:=λ j hj=>by
    by_cases h:j=i
    ·rw[h];exact hb
    ·exact s3 j (by omega)
   cases fl
   ·generalize 2^i=P at *
    (repeat' ((first|(apply A9<;>intro hc<;>try omega)|(apply I8;omega)|apply A2|refine AP (Lf _ _) ?_|refine AP (Cm _ _) ?_|refine AP (hmi) ?_)<;>conv=>whnf))
    rw[<-xb];exact CZ [] (jh (i+1) false (by omega) ⟨by omega,(λ h=>by cases h),fm⟩)
   ·obtain rfl:=s2 rfl
    have uo:=vp;rw[hb]at uo;generalize 2^0=P at *;(repeat' (apply A2<;>conv=>whnf))
    refine FO (enc:=λ r:List Rat=>[AV.sl false (r.map eQ)]) (λ_=>rfl) rfl Fj.symm ?_;(conv=>whnf)
    (repeat' ((first|(apply A9<;>intro hc<;>try omega)|refine AP (uo _ _) ?_)<;>conv=>whnf))
    refine FO (enc:=λ r:List Rat=>[AV.sl false (r.map eQ)]) (λ_=>rfl) rfl Fj.symm ?_;(conv=>whnf)
    (repeat' ((first|(apply I8;omega)|refine AP (Sr _ _) ?_|refine AP (Ka) ?_)<;>conv=>whnf))
    rw[<-xb];exact CZ [] (jh (0+1) false (by omega) ⟨by omega,(λ h=>by cases h),fm⟩)
 ·rw[hb]at Lf
  have zh:LG n a i:=⟨hb,s3⟩;have z0 : ∀ r:AV,r = .g8 [.agg (MG false (EW D a) D ((2^i:Nat):Int) (D^(2^i+2^i-1))),.int .i64 0]->((∃ i,i<=6/\LG n a i/\r = .g8 [.agg (MG false (EW D a) D ((2^i:Nat):Int) (D^(2^i+2^i-1))),.int .i64 0])\/((∀ j,j<=6->G0 (EJ n a j)=false)/\r = .g8 [.agg [.sl false [],.bool false,.sl false [],.sl false [],.int .i64 0,.bool false,.sl false [],.sl false []],.int .i64 14])):=λ r hr=>Or.inl ⟨i,s1,zh,hr⟩
  clear xb jh;generalize 2^i=P at *;cases fl
  ·(repeat' ((first|(apply DQ;omega)|(apply I8;omega)|apply A2|refine AP (Lf _ _) ?_)<;>conv=>whnf))
   refine G6 (λ j=>P+P-1-j) (λ(j:Nat)=>j<=P+P-1) (λ j=>[(54,.int .i64 j)]) (λ j=>[(4,4,.bx ([.row 1000 0 1 0 n]++eQ D++[.int .i64 (P:Int)]++eQ (D^j)))]) [] [] 0 (by rw[Rat.pow_zero];exact (by (conv=>whnf);exact ⟨rfl,rfl,rfl⟩)) (by omega) ?_;intro j t1 kh;by_cases hj:j<P+P-1
   ·have hl:=Si j (by omega)
    (repeat' ((first|(apply A9<;>intro hc<;>try omega)|(apply BG;omega)|apply A2|refine AP (hl) ?_)<;>conv=>whnf))
    exact CZ [] (kh (j+1) (by omega) (by omega))
   have ej:j=P+P-1:=by omega
   clear kh;rw[ej];(repeat' ((first|(apply A9<;>intro hc<;>try omega)|apply A2)<;>conv=>whnf))
   refine ⟨.g8 [.agg (MG false (EW D a) D (P:Int) (D^(P+P-1))),.int .i64 0],?_,z0 _ rfl⟩;(conv=>whnf)
   refine FO (enc:=λ r:List Rat=>[AV.sl false (r.map eQ)]) (λ_=>rfl) rfl Fj.symm ?_;(conv=>whnf)
   exact BV rfl (tJ _ _ _ _ 0)
  ·obtain rfl:=s2 rfl
   have uo:=vp;rw[hb]at uo;(repeat' (apply A2<;>conv=>whnf))
   refine FO (enc:=λ r:List Rat=>[AV.sl false (r.map eQ)]) (λ_=>rfl) rfl Fj.symm ?_;(conv=>whnf)
   (repeat' ((first|(apply DQ;omega)|(apply I8;omega)|refine AP (uo _ _) ?_)<;>conv=>whnf))
   refine G6 (λ j=>P+P-1-j) (λ(j:Nat)=>j<=P+P-1) (λ j=>[(54,.int .i64 j)]) (λ j=>[(4,4,.bx ([.row 1000 0 1 0 n]++eQ D++[.int .i64 (P:Int)]++eQ (D^j)))]) [] [] 0 (by rw[Rat.pow_zero];exact (by (conv=>whnf);exact ⟨rfl,rfl,rfl⟩)) (by omega) ?_;intro j t1 kh;by_cases hj:j<P+P-1
   ·have hl:=Si j (by omega)
    (repeat' ((first|(apply A9<;>intro hc<;>try omega)|(apply BG;omega)|apply A2|refine AP (hl) ?_)<;>conv=>whnf))
    exact CZ [] (kh (j+1) (by omega) (by omega))
   have ej:j=P+P-1:=by omega
   clear kh;rw[ej];(repeat' ((first|(apply A9<;>intro hc<;>try omega)|apply A2)<;>conv=>whnf))
   refine ⟨.g8 [.agg (MG false (EW D a) D (P:Int) (D^(P+P-1))),.int .i64 0],?_,z0 _ rfl⟩;(conv=>whnf)
   refine FO (enc:=λ r:List Rat=>[AV.sl false (r.map eQ)]) (λ_=>rfl) rfl Fj.symm ?_;(conv=>whnf)
   exact BV rfl (tJ _ _ _ _ 0)
theorem An3 {D:Rat} {f:Nat->Rat} {p j:Nat} (h:p<=j):H7 D f (j+1-p)=H7 D f (j-p)*D+f (j-p):=by
 rw[show j+1-p=(j-p)+1 by omega];rfl
abbrev ZW (Z:List (List Rat)) (T:Rat):List AV:=[.sl false (eM Z)]++eQ T
theorem AjF (Z:List (List Rat)) (T:Rat):B3 (.agg (ZW Z T)):=by
 have h1:=tL Z;have h3:=GD T;simp only[B3,EC,true_and,and_true,ZW,List.cons_append,List.nil_append]at h1 h3 ⊢;exact ⟨h1,h3.1,h3.2⟩
theorem AcU (N:n8 L) (qr:Bool) (R:List (List Rat)) (D T:Rat) (z:Nat->List Rat) (n p kr kd kz:Nat) (hR:Sq n R) (Nu:Ms kr R) (hD:Bt kd D) (kn : ∀ j,j<=128->Bs kz (z j)) (Da : ∀ j,(z j).length=n) (hz : ∀ j,z (j+1)=GL R (z j))
  (hn:n<=4) (hp:1<=p/\p<=64) (k1:kr<=1000000000) (k2:kd<=1000000000) (k3:kz<=1000000000) :
  Ev L 304 [.agg (MG qr R D (p:Int) T),.sl false ((z 0).map eQ)] (.agg (ZW ((List.range (p+p)).map z) (H7 D (λ m=>E6 (z (p+m))) p))):=by
 have hO:=IV N.toa5 0 (by omega);rw[show ((0:Int):Rat)=0 from rfl]at hO;have z0:=AjF ((List.range (p+p)).map z) (H7 D (λ m=>E6 (z (p+m))) p);have Mg : ∀ j,(List.range (j+1)).map z=(List.range j).map z++[z j]:=λ j=>by rw[List.range_succ,List.map_append];rfl
 have gj : ∀ j,((List.range j).map z).length=j:=λ j=>by simp
 have Ht : ∀ m,m<=64->Bt (64*(kd+kz+1)) (H7 D (λ m=>E6 (z (p+m))) m):=λ m hm=>(cB hD m λ j hj=>XG (kn (p+j) (by omega))).le (zR _ hm)
 refine Ev.x N.TE rfl rfl ?_;(repeat' ((first|(apply I8;omega)|apply A2|refine AP (hO) ?_)<;>conv=>whnf))
 refine IX (λ j _=>p+p-j) (λ(j:Nat) (fl:Bool)=>j<=p+p/\fl=decide (j=0)) (λ j _=>[(14,.int .i64 j),(6,.sl false ((z (j-1)).map eQ))]) (λ j fl=>bif fl then [] else [(5,5,.bx ([.row 1000 0 1 0 j]++eQ (H7 D (λ m=>E6 (z (p+m))) (j-p)))),(1000,27,.rw 1 (((List.range j).map z).map λ r=>[AV.sl false (r.map eQ)]))]) 0 true ⟨by omega,rfl⟩ ?_;intro j fl ⟨p1,p2⟩ ih;by_cases hj:j<p+p
 ·have hA:=λ q1 q2=>Ams N q1 q2 qr R (z (j-1)) n kr kz hR (Da _) Nu (kn _ (by omega)) hn k1 k3
  have hG:=λ q=>Amu N q (z j) kz (kn j (by omega)) (by rw[Da];omega) (by omega)
  have hs:=Mg j;have hl:=gj j;have iq:=gj (j+1);cases fl
  ·have Ln:j≠0:=by simpa using p2.symm
   have Xi:GL R (z (j-1))=z j:=by rw[<-hz];congr 1;omega
   rw[Xi]at hA;by_cases Uz:p<=j
   ·have h1:=LL N.toa5 (Ht (j-p) (by omega)) hD (by omega) (by omega)
    have h2:=LK N.toa5 ((Ht (j-p) (by omega)).mul hD) (XG (kn j (by omega))) (by omega) (by omega);have he:H7 D (λ m=>E6 (z (p+m))) (j-p)*D+E6 (z j)=H7 D (λ m=>E6 (z (p+m))) (j+1-p):=by
     rw[An3 Uz,show p+(j-p)=j by omega]
    rw[he]at h2;have e1:z (j+1-1)=z j:=rfl;rw[<-e1]at hG hA hs h2 Xi;generalize (List.range j).map z=Z at *;(repeat' ((first|(apply A9<;>intro hc<;>try omega)|apply GY|apply A2|refine AP (hA _ _) ?_)<;>conv=>whnf))
    refine H8 (l:=Z) (z:=1) (bytes:=24) (enc:=λ r:List Rat=>[AV.sl false (r.map eQ)]) (z (j+1-1)) rfl hl.symm rfl (by omega) (by omega) ?_;rw[<-hs,iq];(conv=>whnf)
    (repeat' ((first|(apply A9<;>intro hc<;>try omega)|(apply BG;omega)|refine AP (h1) ?_|refine AP (hG _) ?_|refine AP (h2) ?_)<;>conv=>whnf))
    exact CZ [(1000,27)] (ih (j+1) false (by omega) ⟨by omega,by simp⟩)
   ·have ez:j-p=j+1-p:=by omega
    have e1:z (j+1-1)=z j:=rfl;rw[<-e1]at hA hs Xi;rw[ez];generalize (List.range j).map z=Z at *;(repeat' ((first|(apply A9<;>intro hc<;>try omega)|apply GY|apply A2|refine AP (hA _ _) ?_)<;>conv=>whnf))
    refine H8 (l:=Z) (z:=1) (bytes:=24) (enc:=λ r:List Rat=>[AV.sl false (r.map eQ)]) (z (j+1-1)) rfl hl.symm rfl (by omega) (by omega) ?_;rw[<-hs,iq];(conv=>whnf)
    (repeat' ((first|(apply A9<;>intro hc<;>try omega)|(apply BG;omega))<;>conv=>whnf))
    exact CZ [(1000,27)] (ih (j+1) false (by omega) ⟨by omega,by simp⟩)
  ·have Ln:j=0:=by simpa using p2.symm
   subst Ln;have ez:H7 D (λ m=>E6 (z (p+m))) (0+1-p)=0:=by rw[show 0+1-p=0 by omega];rfl
   (repeat' ((first|(apply A9<;>intro hc<;>try omega)|apply GY|apply A2)<;>conv=>whnf))
   refine ZF (enc:=λ r:List Rat=>[AV.sl false (r.map eQ)]) (z 0) rfl rfl (by omega) ?_;(conv=>whnf)
   (repeat' ((first|(apply A9<;>intro hc<;>try omega)|(apply BG;omega))<;>conv=>whnf))
   rw[show [z 0]=(List.range (0+1)).map z from rfl];rw[<-ez];exact CZ [(1000,27)] (ih (0+1) false (by omega) ⟨by omega,by simp⟩)
 have ej:j=p+p:=by omega
 obtain rfl:fl=false:=by rw[p2];simp;omega
 clear ih p2;have hl:=gj j;rw[show j-p=p by omega];rw[<-ej]at z0 ⊢;(repeat' ((first|(apply A9<;>intro hc<;>try omega)|(refine FO (λ_=>rfl) rfl ?_ ?_;(first|rfl|simp))|apply A2)<;>conv=>whnf))
 exact BV rfl z0
abbrev YI (m:List (List Rat)):List (List AV):=m.map λ r=>[AV.sl true (r.map (NX true))]
theorem Aet (Z:List (List Rat)) (T:Rat):P0 (.agg (ZW Z T)) = .agg ([.sl true (YI Z)]++NX true T):=by
 have hd : ∀ l:List Nat,O7 (l.map BF)=l.map BF:=λ l=>by
  induction l with
  | nil=>rfl
  | cons x l ih=>rw[List.map_cons,O7,ih];rfl
 have hq : ∀ x:Rat,MV (eQ x)=NX true x:=λ x=>by
  show MV [.bool _,.sl false _,.sl false _]=_;simp only[MV,LQ,hd]
 have hr : ∀ r:List Rat,O7 (r.map eQ)=r.map (NX true):=λ r=>by
  induction r with
  | nil=>rfl
  | cons x r ih=>rw[List.map_cons,O7,ih,hq];rfl
 have hz : ∀ Z:List (List Rat),O7 (eM Z)=YI Z:=λ Z=>by
  induction Z with
  | nil=>rfl
  | cons r Z ih =>
   have Na:O7 (Z.map λ r=>[AV.sl false (r.map eQ)])=Z.map λ r=>[AV.sl true (r.map (NX true))]:=ih
   show O7 ([AV.sl false (r.map eQ)]::Z.map λ r=>[AV.sl false (r.map eQ)])=_;rw[O7,Na];simp only[MV,LQ,hr];rfl
 show AV.agg (MV (AV.sl false (eM Z)::eQ T))=_;rw[MV,hq];simp only[LQ,hz];rfl
theorem AcQ (N:n8 L) (qr q:Bool) (R:List (List Rat)) (D T U:Rat) (P:Int) (c:List Rat) (z:Nat->List Rat) (n m kd kc kz kt:Nat) (hD:Bt kd D) (hc:Bs kc c) (o6:c.length=n) (kn : ∀ j,j<=128->Bs kz (z j)) (Da : ∀ j,(z j).length=n) (hT:Bt kt T)
  (hn:n<=4) (hm:m<=128) (k1:kc<=100000000) (k2:kd<=100000000) (k3:kz<=100000000) (k4:kt<=100000000000) :
  Ev L 305 [.agg (MG qr R D P U),.sl q (c.map eQ),.agg ([.sl true (YI ((List.range m).map z))]++NX true T)] (.agg (eQ (H7 D (λ j=>CU (CI c (z j))) m+DB c*T))):=by
 have hO:=IV N.toa5 0 (by omega);rw[show ((0:Int):Rat)=0 from rfl]at hO;have gj:((List.range m).map z).length=m:=by simp
 have hra : ∀ j,j<m->((List.range m).map z)[j]? = some (z j):=λ j hj=>by rw[List.getElem?_map,List.getElem?_range hj];rfl
 have br : ∀ j,j<=128->Bt (4*(kc+kz+1)) (CI c (z j)):=λ j hj=>(hc.dot (kn j hj)).le (zR _ (by omega))
 have hH : ∀ t,t<=128->Bt (128*(kd+4*(kc+kz+1)+1)) (H7 D (λ j=>CU (CI c (z j))) t):=λ t ht=>(cB hD t λ j hj=>ME (br j (by omega))).le (zR _ ht)
 have Cz:Bt (4*(kc+1)) (DB c):=(XW hc).le (zR _ (by omega));generalize (List.range m).map z=Z at *;refine Ev.x N.TD rfl rfl ?_;(repeat' ((first|apply BT|apply A2|refine AP (hO) ?_)<;>conv=>whnf))
 refine G5 (λ j=>m-j) (λ(j:Nat)=>j<=m) (λ j=>[(14,.int .i64 j)]) (λ j=>[(7,7,.bx (eQ (H7 D (λ j=>CU (CI c (z j))) j)))]) 0 (by omega) ?_;intro j p1 ih;by_cases hj:j<m
 ·have hr:=hra j hj
  have vg:Z[(j:Int).toNat]? = some (z j):=hr;have h1:=LL N.toa5 (hH j (by omega)) hD (by omega) (by omega);have hd:=λ q q'=>AcP N q q' true c (z j) kc kz (by rw[o6,Da]) hc (kn j (by omega)) (by omega) (by omega) (by omega)
  have ha:=jS N.tobq (br j (by omega)) (by omega);have h2:=LK N.toa5 ((hH j (by omega)).mul hD) (ME (br j (by omega))) (by omega) (by omega);have Di:Ev L 98 [.agg (eQ (H7 D (λ j=>CU (CI c (z j))) j*D)),.agg (eQ (CU (CI c (z j))))] (.agg (eQ (H7 D (λ j=>CU (CI c (z j))) (j+1)))):=h2;clear h2 br hH Cz;(repeat' ((first|(apply A9<;>intro hc<;>try omega)|(apply BG;omega)|(refine CN (by assumption) ?_ rfl ?_;omega)|apply A2|refine AP (h1) ?_|refine AP (hd _ _) ?_|refine AP (ha) ?_|refine AP (Di) ?_)<;>conv=>whnf))
  exact CZ [] (ih (j+1) (by omega) (by omega))
 have ej:j=m:=by omega
 clear ih;rw[ej];have hS:=λ q=>AcT N q c kc hc (by omega) (by omega)
 have h1:=AcJ N.toa5 true Cz hT (by omega) (by omega);have h2:=LK N.toa5 (hH m hm) (Cz.mul hT) (by omega) (by omega);(repeat' ((first|(apply A9<;>intro hc<;>try omega)|apply A2|refine AP (hS _) ?_|refine AP (h1) ?_|refine AP (h2) ?_)<;>conv=>whnf))
 exact BV rfl (GD _)
theorem Afg {Z:List (List Rat)} {T:Rat} (h:Z≠[]) : ¬ NN (.agg (ZW Z T)):=by
 intro hf;have h1:=hf (.sl false (eM Z)) (by simp);cases Z with
 | nil=>exact h rfl
 | cons r Z =>
  have h2:=h1 [.sl false (r.map eQ)] (by simp) (.sl false (r.map eQ)) (by simp);simp [xS]at h2
theorem Qz {n k j:Nat} (hn:n<=4) (hj:j<=128):dK n k j<=5*k+128*(17*k+4):=by
 have h1:n*n<=4*4:=Nat.mul_le_mul hn hn;have h2:n*n*k<=16*k:=zR k h1;have h3:n*k<=4*k:=zR k hn;have h4:j*((k+n*n*k)+n)<=128*(17*k+4):=Nat.mul_le_mul hj (by omega);rw[dK];omega
theorem kG (b:List Rat):[b].flatten=b:=by simp
theorem Amw (N:n8 L) (S:FQ) (n k:Nat) (hS:S.Ok n k) (hn:n<=4) (hk:k<=1000) :
  ∃ v,Ev L 307 [.agg (eS S)] v/\((∃ i,i<=6/\LG n S.a i/\v = .g8 [.agg (eQ (H3 S (2^i))),.int .i64 0])\/((∀ j,j<=6->G0 (EJ n S.a j)=false)/\v = .g8 [.agg [.bool false,.sl false [],.sl false []],.int .i64 14])):=by
 have Mk:=uT N.ton7 S n k hS (by omega);have Ay:=hS.la;have Ga:=hS.lb;have ke:=hS.lc;have Ar:Sq n S.a:=⟨hS.la,hS.lr⟩;obtain ⟨v,Fc,hv⟩:=AcS N false false S.a n k Ar hS.ba hn (by omega);have Hn:=jX N true false [S.b] k (λ r hr=>by obtain rfl:=List.mem_singleton.1 hr;exact hS.bb) (by rw[kG];omega) (by simp) (by omega);have vp:=jX N true false [S.c] k (λ r hr=>by obtain rfl:=List.mem_singleton.1 hr;exact hS.bc) (by rw[kG];omega) (by simp) (by omega);rw[kG]at Hn vp;refine Ev.xE N.S3 rfl rfl ?_;rcases hv with ⟨i,h1,h2,rfl⟩|⟨h1,rfl⟩
 ·obtain ⟨D,eD,d1,d2,d3⟩:=lN Ar hS.ba
  obtain ⟨E,eE,e1,e2,e3⟩:=kL hS.lb hS.bb;obtain ⟨O,Js,o1,o2,o3⟩:=kL hS.lc hS.bc;obtain ⟨g1,_,g3⟩:=YY h1;have Cf:n*n<=4*4:=Nat.mul_le_mul hn hn;have Gl:n*n*k<=16*k:=zR k Cf;have AJM:n*k<=4*k:=zR k hn;have bD:Bt 16000 (D:Rat):=(cI d2).le (by omega);have bE:Bt 4000 (E:Rat):=(cI e2).le (by omega);have bO:Bt 4000 (O:Rat):=(cI o2).le (by omega);have pD:=XQ d1;have pE:=XQ e1;have pO:=XQ o1;have hzw:=Rb Ar d3 e3;have kn : ∀ j,j<=128->Bs 3000000 (GQ S.a S.b (D:Rat) (E:Rat) j):=λ j hj x hx=>((hzw j x hx).le (by have:=Qz (n:=n) (k:=k) hn hj;omega)).bt
  have qf:Bs 5000 (S.c.map (· * (O:Rat))):=λ x hx=>((o3 x hx).le (by omega)).bt
  have Nu:Ms 17000 (EW (D:Rat) S.a):=λ r hr x hx=>((d3 r hr x hx).le (by omega)).bt
  have mi:=Agv (S:=S) (p:=2^i) g3 pD pE pO;have Eh:H3 S (2^i)=CU S.d+(ES (KF S.a S.b S.c) (2^i+2^i)+DB S.c*ES (λ j=>JY S.a S.b (2^i+j)) (2^i)):=rfl;rw[<-mi]at Eh;rw[eD]at Fc;rw[eE]at Hn;rw[Js]at vp;clear eD eE Js hzw d1 d2 d3 e1 e2 e3 o1 o2 o3 mi;generalize (D:Rat)=D at *;generalize (E:Rat)=E at *;generalize (O:Rat)=O at *;have Sv:=λ q=>jY N q S.c O k 4000 hS.bc bO (by omega) (by omega) (by omega)
  have Su:=λ q=>jY N q S.b E k 4000 hS.bb bE (by omega) (by omega) (by omega)
  have Da : ∀ j,(GQ S.a S.b D E j).length=n:=λ j=>by rw[GQ,List.length_map,iG Ay Ga]
  have hW:=AcU N false (EW D S.a) D (D^(2^i+2^i-1)) (GQ S.a S.b D E) n (2^i) 17000 16000 3000000 (zI _ Ar) Nu bD kn Da (rV S.a S.b D E) hn ⟨g3,g1⟩ (by omega) (by omega) (by omega);rw[rW]at hW;have bt:Bt 200000000 (H7 D (λ m=>E6 (GQ S.a S.b D E (2^i+m))) (2^i)):=(cB bD _ λ j hj=>XG (kn (2^i+j) (by omega))).le (by
   have:=zR (16000+3000000+1) g1
   omega)
  have hG:=λ q=>AcQ N false q (EW D S.a) D (H7 D (λ m=>E6 (GQ S.a S.b D E (2^i+m))) (2^i)) (D^(2^i+2^i-1)) ((2^i:Nat):Int) (S.c.map (· * O)) (GQ S.a S.b D E) n (2^i+2^i) 16000 5000 3000000 200000000 bD qf (by rw[List.length_map];exact ke) kn Da bt hn (by omega) (by omega) (by omega) (by omega) (by omega)
  have Er:Bt 3000000000 (H7 D (λ j=>CU (CI (S.c.map (· * O)) (GQ S.a S.b D E j))) (2^i+2^i)+DB (S.c.map (· * O))*H7 D (λ m=>E6 (GQ S.a S.b D E (2^i+m))) (2^i)):=by
   have q1 : ∀ j,j<2^i+2^i->Bt (4*(5000+3000000+1)) (CU (CI (S.c.map (· * O)) (GQ S.a S.b D E j))):=λ j hj=>ME ((qf.dot (kn j (by omega))).le (zR _ (by rw[List.length_map];omega)))
   have q2:=(cB bD (2^i+2^i) q1).le (zR _ (show 2^i+2^i<=128 by omega));have q3:Bt (4*(5000+1)) (DB (S.c.map (· * O))):=(XW qf).le (zR _ (by rw[List.length_map];omega));exact (q2.add (q3.mul bt)).le (by omega)
  have blast:Bt 2100000 (D^(2^i+2^i-1)):=(qG bD _).le (by
   have:=zR 16000 (show 2^i+2^i-1<=127 by omega)
   omega)
  have ju:=LL N.toa5 bE bO (by omega) (by omega);have nb:=LL N.toa5 blast (bE.mul bO) (by omega) (by omega);have m7:D^(2^i+2^i-1)*(E*O)≠0:=by
   have Gn : ∀ j:Nat,0<D^j:=λ j=>by
    induction j with
    | zero=>rw[Rat.pow_zero];decide
    | succ j ih=>rw[Rat.pow_succ];exact Rat.mul_pos ih pD
   have:=Rat.mul_pos (Gn (2^i+2^i-1)) (Rat.mul_pos pE pO)
   grind
  have Rv:=jW N.toa5 Er (blast.mul (bE.mul bO)) (by omega) (by omega) m7;have Nl:=jS N.tobq hS.bd (by omega);have Nm:=LK N.toa5 (ME hS.bd) (Er.vn (blast.mul (bE.mul bO))) (by omega) (by omega);rw[<-Eh]at Nm;have Ld : ¬ NN (.agg (ZW ((List.range (2^i+2^i)).map (GQ S.a S.b D E)) (H7 D (λ m=>E6 (GQ S.a S.b D E (2^i+m))) (2^i)))):=Afg (by
   intro e;have:=congrArg List.length e
   simp at this)
  have Ge:=Aet ((List.range (2^i+2^i)).map (GQ S.a S.b D E)) (H7 D (λ m=>E6 (GQ S.a S.b D E (2^i+m))) (2^i));have z0 : ∀ r:AV,r = .g8 [.agg (eQ (H3 S (2^i))),.int .i64 0]->((∃ i,i<=6/\LG n S.a i/\r = .g8 [.agg (eQ (H3 S (2^i))),.int .i64 0])\/((∀ j,j<=6->G0 (EJ n S.a j)=false)/\r = .g8 [.agg [.bool false,.sl false [],.sl false []],.int .i64 14])):=λ r hr=>Or.inl ⟨i,h1,h2,hr⟩
  clear Eh Er blast bt m7 kn qf Nu pD pE pO;generalize H3 S (2^i)=W at *;generalize H7 D (λ j=>CU (CI (S.c.map (· * O)) (GQ S.a S.b D E j))) (2^i+2^i)+DB (S.c.map (· * O))*H7 D (λ m=>E6 (GQ S.a S.b D E (2^i+m))) (2^i)=U at *;generalize H7 D (λ m=>E6 (GQ S.a S.b D E (2^i+m))) (2^i)=T at *;generalize (List.range (2^i+2^i)).map (GQ S.a S.b D E)=Z at *;generalize D^(2^i+2^i-1)=P at *;generalize 2^i=p at *;(repeat' ((first|(apply A9<;>intro hc<;>try omega)|apply BT|refine J4 rfl ?_|apply A2|refine AP (Mk) ?_|refine AP (Fc) ?_|refine AP (Hn) ?_|refine AP (vp) ?_|refine AP (Sv _) ?_|refine AP (Su _) ?_|refine AP (hW) ?_)<;>conv=>whnf))
  refine Yf Ld trivial ?_;rw[Ge];(conv=>whnf)
  (repeat' ((first|refine AP (hG _) ?_|refine AP (ju) ?_|refine AP (nb) ?_|refine AP (Rv) ?_|refine AP (Nl) ?_|refine AP (Nm) ?_)<;>conv=>whnf))
  exact ⟨_,BV rfl (jB _ 0),z0 _ rfl⟩
 ·(repeat' ((first|(apply A9<;>intro hc<;>try omega)|apply BT|apply A2|refine AP (Mk) ?_|refine AP (Fc) ?_)<;>conv=>whnf))
  exact ⟨_,BV rfl (by simp [B3,EC,IH]),Or.inr ⟨h1,rfl⟩⟩
theorem Aln (x:Rat):eQ (CU x)=[.bool false,.sl false ((dg x.num.natAbs).map BF),.sl false ((dg x.den).map BF)]:=by
 unfold CU;by_cases h:x.num<0
 ·rw[if_pos h]
  show rQ false false (decide ((-x).num<0)) _ _=_;rw[Rat.neg_num,Int.natAbs_neg,Rat.neg_den,show decide (-x.num<0)=false from decide_eq_false (by omega)]
 ·rw[if_neg h]
  show rQ false false (decide (x.num<0)) _ _=_;rw[show decide (x.num<0)=false from decide_eq_false h]
theorem oQ (N:cb L) {x:Rat} {k:Nat} (hx:Bt k x) (hk:k<2199023255552):Ev L 309 [.agg (eQ x)] (.agg (eQ (CU x))):=by
 have hT:=Adc N.toa6 hx hk;have hs:=hx.rj hk;have hR:=λ q=>K3 N.toa6 (dg x.num.natAbs) q (HW _) (by have:=hs.1.2;omega)
 rw[EA]at hR;have hA : ∀ b q,Ev L 308 [.agg [.bool b,.sl q ((dg x.num.natAbs).map BF)]] (.agg [.bool false,.sl false ((dg x.num.natAbs).map BF)]):=λ b q=>by
  refine Ev.x N.UN rfl rfl ?_;(repeat' ((first|apply A2|refine AP (hR _) ?_)<;>conv=>whnf))
  exact BV rfl (Abm _ _)
 have o6:=GD (CU x);rw[Aln]at o6 ⊢;refine Ev.x N.UZ rfl rfl ?_;(repeat' ((first|apply A2|refine AP (hT) ?_|refine AP (hA _ _) ?_)<;>conv=>whnf))
 exact BV rfl o6
theorem AmQ (N:cb L) (q q':Bool) (a:List (List Rat)) (n:Nat) (hs:Sq n a) (hn:n<=16):Ev L 310 [.sl q (MH q' a)] (.bool true):=by
 have gq:=hs.l;refine Ev.x N.V0 rfl rfl ?_;(repeat' (apply A2<;>conv=>whnf))
 refine G5 (λ i=>a.length-i) (λ(i:Nat)=>i<=a.length) (λ i=>[(3,.int .i64 i)]) (λ_=>[]) 0 (by omega) ?_;intro i p1 ih;by_cases hi:i<a.length
 ·obtain ⟨r,hr⟩ : ∃ r,a[i]? = some r:=⟨_,zE hi⟩
  have vg:a[(i:Int).toNat]? = some r:=hr;have gj:=hs.at hr;(repeat' ((first|(apply A9<;>intro hc<;>try omega)|(apply BG;omega)|apply BT|(refine CN (by assumption) ?_ rfl ?_;omega)|apply A2)<;>conv=>whnf))
  exact CZ [] (ih (i+1) (by omega) (by omega))
 obtain rfl:i=a.length:=by omega
 clear ih;(repeat' ((first|(apply A9<;>intro hc<;>try omega)|apply BT|apply A2)<;>conv=>whnf))
 exact JO rfl
theorem Ac3 (N:cb L) (q:Bool) (v:List Rat) (k:Nat) (hv:Bs k v) (hn:v.length<=1000) (hk:k<=1000000000):Ev L 311 [.sl q (v.map eQ)] (.agg (eQ (DB v))):=by
 have hO:=O6 N.toa6 0 (by omega);rw[show ((0:Int):Rat)=0 from rfl]at hO;refine Ev.x N.VX rfl rfl ?_;(repeat' ((first|apply A2|refine AP (hO) ?_)<;>conv=>whnf))
 refine G6 (λ i=>v.length-i) (λ(i:Nat)=>i<=v.length) (λ i=>[(4,.int .i64 i)]) (λ i=>[(3,3,.bx (eQ (DB (v.take i))))]) [] [] 0 (by rw[show DB (v.take 0)=0 from rfl];exact (by (conv=>whnf);exact ⟨rfl,rfl,rfl⟩)) (by omega) ?_;intro i p1 ih;by_cases hi:i<v.length
 ·obtain ⟨x,hx⟩ : ∃ x,v[i]? = some x:=⟨_,zE hi⟩
  have nr:v[(i:Int).toNat]? = some x:=hx;have hA:=oQ N (hv.at hx) (by omega);have hz:Bt (1000*(k+1)) (DB (v.take i)):=(XW (hv.take i)).le (zR _ (by rw[List.length_take];omega));have hP:=YK N.toa6 hz (ME (hv.at hx)) (by omega) (by omega);rw[<-AfT hx]at hP;generalize DB (v.take i)=w at *;generalize CU x=y at *;(repeat' ((first|(apply A9<;>intro hc<;>try omega)|(apply BG;omega)|apply BT|(refine CN (by assumption) ?_ rfl ?_;omega)|apply A2|refine AP (hA) ?_|refine AP (hP) ?_)<;>conv=>whnf))
  exact CZ [] (ih (i+1) (by omega) (by omega))
 obtain rfl:i=v.length:=by omega
 clear ih;rw[zT (Nat.le_refl _)];(repeat' ((first|(apply A9<;>intro hc<;>try omega)|apply BT|apply A2)<;>conv=>whnf))
 exact BV rfl (GD _)
theorem AmK (N:cb L) (q:Bool) (v:List Rat) (k:Nat) (hv:Bs k v) (hn:v.length<=1000000) (hk:k<=1000000000000):Ev L 312 [.sl q (v.map eQ)] (.agg (eQ (E6 v))):=by
 have hO:=O6 N.toa6 0 (by omega);rw[show ((0:Int):Rat)=0 from rfl]at hO;refine Ev.x N.VS rfl rfl ?_;(repeat' ((first|apply A2|refine AP (hO) ?_)<;>conv=>whnf))
 refine G6 (λ i=>v.length-i) (λ(i:Nat)=>i<=v.length) (λ i=>[(4,.int .i64 i)]) (λ i=>[(3,3,.bx (eQ (E6 (v.take i))))]) [] [] 0 (by rw[show E6 (v.take 0)=0 from rfl];exact (by (conv=>whnf);exact ⟨rfl,rfl,rfl⟩)) (by omega) ?_;intro i p1 ih;by_cases hi:i<v.length
 ·obtain ⟨x,hx⟩ : ∃ x,v[i]? = some x:=⟨_,zE hi⟩
  have nr:v[(i:Int).toNat]? = some x:=hx;have hA:=oQ N (hv.at hx) (by omega);have hC:=oL N.toa6 (ME (hv.at hx)) (XG (hv.take i)) (by omega) (by omega);have hg:=XV (x:=CU x) (y:=E6 (v.take i));have hs:E6 (v.take (i+1))=if E6 (v.take i)<CU x then CU x else E6 (v.take i):=AdL hx
  by_cases h:E6 (v.take i)<CU x
  ·rw[if_pos h]at hs
   have h1:=hg.2 h;rw[<-hs]at hA hC h1;generalize v9 (E6 (v.take (i+1))-E6 (v.take i)).num=g at *;(repeat' ((first|(apply A9<;>intro hc<;>try omega)|(apply BG;omega)|apply BT|(refine CN (by assumption) ?_ rfl ?_;omega)|apply A2|refine AP (hA) ?_|refine AP (hC) ?_)<;>conv=>whnf))
   exact CZ [] (ih (i+1) (by omega) (by omega))
  ·rw[if_neg h]at hs
   have h1 : ¬ 0<v9 (CU x-E6 (v.take i)).num:=λ e=>h (hg.1 e)
   rw[<-hs]at hC h1 ⊢;clear hg h hs;generalize v9 (CU x-E6 (v.take (i+1))).num=g at *;generalize CU x=y at *;(repeat' ((first|(apply A9<;>intro hc<;>try omega)|(apply BG;omega)|apply BT|(refine CN (by assumption) ?_ rfl ?_;omega)|apply A2|refine AP (hA) ?_|refine AP (hC) ?_)<;>conv=>whnf))
   exact CZ [] (ih (i+1) (by omega) (by omega))
 obtain rfl:i=v.length:=by omega
 clear ih;rw[zT (Nat.le_refl _)];(repeat' ((first|(apply A9<;>intro hc<;>try omega)|apply BT|apply A2)<;>conv=>whnf))
 exact BV rfl (GD _)
end Go.b8
