/-
  Rational numbers of the program: Compare, Neg; and the parts of a filter.
-/
import Derived.Test.YtgdojcofnobpeaaGreatB10
import Derived.Test.YtgdojcofnobpeaaGreatB9
import Derived.Test.YtgdojcofnobpeaaGreatB4
import Derived.Test.YtgdojcofnobpeaaGreatB3
import Derived.Test.YtgdojcofnobpeaaGreatB5
import Derived.ProofKit
import Derived.OpenShut
import Derived.ChangeOld
import Derived.WalkKit
import Derived.WideShapes
import Derived.ChangeArms
import Derived.Test.YtgdojcofnobpeaaGreatB1
import Derived.Test.YtgdojcofnobpeaaGreatB8
set_option linter.unusedSimpArgs false
set_option linter.unusedVariables false
set_option linter.unnecessarySimpa false
namespace Go.Eng
open F
attribute [local irreducible] AH BJ B1 BD EZ CF CG CR CU DW B5 DT EG F7 DM CQ DR EE AR CW BW pw DC C9 EI ET E1 E7 EW D4 E8
variable {L:Lib}
set_option maxHeartbeats 8000000
theorem Nu (z:Int):sgn z = -1/\z<0\/sgn z=0/\z=0\/sgn z=1/\0<z:=by
 unfold sgn;split
 ·exact Or.inl ⟨rfl,by omega⟩
 ·split
  ·exact Or.inr (Or.inr ⟨rfl,by omega⟩)
  ·exact Or.inr (Or.inl ⟨rfl,by omega⟩)
theorem Wn {a b:Nat} {z:Int} (h:z=(a:Int)-b):FI a b=sgn z:=by
 unfold FI sgn;subst h;repeat' split;all_goals omega
theorem yB (N:StGLib L) (n1 n2 q1 q2:Bool) (a b:List Nat) (ha:Sm 549755813888 a) (hb:Sm 549755813888 b):Ev L 197 [.agg (rZ q1 n1 a),.agg (rZ q2 n2 b)] (.int .i64 (sgn (zv n1 a-zv n2 b))):=by
 have h1:=λ q=>hH N.toRatGLib n1 q a ha
 have h2:=λ q=>hH N.toRatGLib n2 q b hb
 have h3:=λ q q'=>U6 N.d7 a b q q' ha.1 hb.1 (by have:=ha.2;omega) (by have:=hb.2;omega)
 have h4:=λ q q'=>U6 N.d7 b a q q' hb.1 ha.1 (by have:=hb.2;omega) (by have:=ha.2;omega)
 have za:=HO n1 a;have zb:=HO n2 b;generalize zv n1 a=x at *;generalize zv n2 b=y at *;rcases Nu x with ⟨e1,g1⟩|⟨e1,g1⟩|⟨e1,g1⟩<;>rcases Nu y with ⟨e2,g2⟩|⟨e2,g2⟩|⟨e2,g2⟩
 all_goals
  rw[e1]at h1;rw[e2]at h2;refine Ev.x N.O5 rfl rfl ?_;(repeat' ((first|(apply BR<;>intro hc<;>try (exfalso;omega))|apply BA|refine BH (h1 _) ?_|refine BH (h2 _) ?_|refine BH (h3 _ _) ?_|refine BH (h4 _ _) ?_)<;>conv=>whnf));first
   | exact FF (qJ (by omega))
   | exact FF (qK (by omega))
   | exact FF (Wn (by omega))
theorem Aiv (N:StGLib L) (k:Nat) (hk:1<=k/\k<=68719476736) (n1 n2:Bool) (m1 d1 m2 d2:List Nat) (cu:Sm k m1) (hd1:Sm k d1) (hm2:Sm k m2) (gk:Sm k d2) :
  Ev L 198 [.agg (rQ false false n1 m1 d1),.agg (rQ false false n2 m2 d2)] (.int .i64 (sgn (qv n1 m1 d1-qv n2 m2 d2).num)):=by
 obtain ⟨a1,a2,a3,w1,v3,s1,s2,s3,s4,s5⟩:=UB N.toRatGLib n1 m1 d1 k (by omega) cu hd1;obtain ⟨b1,b2,b3,w2,v7,t1,t2,t3,t4,t5⟩:=UB N.toRatGLib n2 m2 d2 k (by omega) hm2 gk;rw[s5,t5,<-Jd s3 t3];by_cases hw:w1=true/\w2=true
 ·obtain ⟨rfl,rfl⟩:=hw
  have hC:=λ q q'=>yB N a1 b1 q q' a2 b2 (s1.le (by omega)) (t1.le (by omega))
  rw[s4 rfl,t4 rfl];rw[show zv a1 a2*((1:Nat):Int)-zv b1 b2*((1:Nat):Int)=zv a1 a2-zv b1 b2 by omega];refine Ev.x N.M9 rfl rfl ?_;(repeat' ((first|apply J4|apply BA|refine BH (v3) ?_|refine BH (v7) ?_|refine BH (hC _ _) ?_)<;>conv=>whnf));exact FF rfl
 ·have hM1:=λ q q'=>XV N.toRatGLib a1 false q q' a2 b3 s1.1 t2.1 (by have:=s1.2;have:=t2.2;omega)
  have hM2:=λ q q'=>XV N.toRatGLib b1 false q q' b2 a3 t1.1 s2.1 (by have:=t1.2;have:=s2.2;omega)
  have ni:=ZY N.toRatGLib a3;have lf:=ZY N.toRatGLib b3;have g1:Sm (k+k) (dg (zv a1 a2*zv false b3).natAbs):=YT s1 t2;have g2:Sm (k+k) (dg (zv b1 b2*zv false a3).natAbs):=YT t1 s2;have hC:=λ q q'=>yB N (decide (zv a1 a2*zv false b3<0)) (decide (zv b1 b2*zv false a3<0)) q q' _ _ (g1.le (by omega)) (g2.le (by omega))
  rw[HW,HW]at hC;rw[<-HD b3,<-HD a3];generalize zv a1 a2*zv false b3=x at *;generalize zv b1 b2*zv false a3=y at *;refine Ev.x N.M9 rfl rfl ?_;cases w1<;>cases w2
  ·(repeat' ((first|apply J4|apply W6|apply BA|refine BH (v3) ?_|refine BH (v7) ?_|refine BH (ni) ?_|refine BH (lf) ?_|refine BH (hM1 _ _) ?_|refine BH (hM2 _ _) ?_|refine BH (hC _ _) ?_)<;>conv=>whnf))
   exact FF rfl
  ·(repeat' ((first|apply J4|apply W6|apply BA|refine BH (v3) ?_|refine BH (v7) ?_|refine BH (ni) ?_|refine BH (lf) ?_|refine BH (hM1 _ _) ?_|refine BH (hM2 _ _) ?_|refine BH (hC _ _) ?_)<;>conv=>whnf))
   exact FF rfl
  ·(repeat' ((first|apply J4|apply W6|apply BA|refine BH (v3) ?_|refine BH (v7) ?_|refine BH (ni) ?_|refine BH (lf) ?_|refine BH (hM1 _ _) ?_|refine BH (hM2 _ _) ?_|refine BH (hC _ _) ?_)<;>conv=>whnf))
   exact FF rfl
  ·exact absurd ⟨rfl,rfl⟩ hw
theorem AhE (N:StGLib L) {x y:Rat} {k l:Nat} (hx:Bt k x) (hy:Bt l y) (hk:k<2199023255552) (hl:l<2199023255552):Ev L 198 [.agg (eQ x),.agg (eQ y)] (.int .i64 (sgn (x-y).num)):=by
 have:=Aiv N 68719476736 (by omega) (decide (x.num<0)) (decide (y.num<0)) _ _ _ _ (hx.sm hk).1 (hx.sm hk).2 (hy.sm hl).1 (hy.sm hl).2
 rw[IB,IB]at this;exact this
theorem Ah1 (N:StGLib L) {x:Rat} {k:Nat} (hx:Bt k x) (hk:k<2199023255552):Ev L 199 [.agg (eQ x)] (.agg (eQ (-x))):=by
 have hF:=xZ N.toRatHLib (decide (x.num<0)) (dg x.num.natAbs) (dg x.den);have hT:=λ q1 q2=>yU N.toRatGLib (!decide (x.num<0)) q1 q2 _ _ ((hx.sm hk).1.le (by omega)) ((hx.sm hk).2.le (by omega))
 rw[Ky,IB]at hT;refine Ev.x N.QS rfl rfl ?_;(repeat' ((first|apply sS|apply BA|refine BH (hF) ?_|refine BH (hT _ _) ?_)<;>conv=>whnf));exact CK rfl (G3 _)
theorem yH (N:StGLib L) (q:Bool) (l:List Rat) (k:Nat) (hl:Bs k l) (hk:k<2199023255552) (hn:l.length<=1000000):Ev L 200 [.sl q (l.map eQ)] (.int .i64 ((FM l l.length:Int)-1)):=by
 refine Ev.x N.QK rfl rfl ?_;(repeat' (apply BA<;>conv=>whnf));refine HI 1000 N.KX rfl rfl ?_;(repeat' ((first|apply CB|apply BA)<;>conv=>whnf));refine DG (λ n=>n) (λ(n:Nat)=>n<=l.length/\FM l l.length=FM l n) (λ n=>[(3,.int .i64 n)]) (λ_=>[]) [] [] l.length (by (conv=>whnf);exact ⟨rfl,rfl,rfl⟩) ⟨Nat.le_refl _,rfl⟩ ?_;intro n ⟨p1,p2⟩ ih;have done : ∀ {n:Nat},FM l l.length=n->F3 l=l.take n:=λ h=>by rw[F3,h]
 by_cases hz:n=0\/(∃ m x,n=m+1/\l[m]? = some x/\x≠0)
 ·have au:FM l l.length=n:=by
   rw[p2];rcases hz with rfl|⟨m,x,rfl,h1,h2⟩
   ·rfl
   ·rw[FM,if_neg]
    rw[List.getD_eq_getElem?_getD,h1];exact h2
  have oz:=done au;have htl:(l.take n).length=n:=by rw[List.length_take];omega
  clear ih au p2 done;rcases hz with h0|⟨m,x,Am,h1,h2⟩
  case' inl=>(repeat' ((first|(apply BR<;>intro hc<;>try (exfalso;omega))|apply BA)<;>conv=>whnf))
  case' inr =>
   have h1':l[((n:Int)-1).toNat]? = some x:=by rw[show ((n:Int)-1).toNat=m by omega];exact h1
   have eg:=N6 N.toRatGLib (hl.at h1) (by omega);have hs:=OO (x:=x);generalize sgn x.num=s at *;have hS : ∀ v,l[((n:Int)-1).toNat]? = some v->Ev L 97 [.agg (eQ v)] (.int .i64 s):=λ v h=>by
    obtain rfl:=Option.some.inj (h1'.symm.trans h);exact eg
   have hs0:s≠0:=λ h=>h2 (hs.1 h)
   (repeat' ((first|(apply BR<;>intro hc<;>try (exfalso;omega))|(apply D5;omega)|(refine CY (by assumption) ?_ rfl ?_;omega)|apply BA|refine BH (eg) ?_)<;>conv=>whnf))
  all_goals
   refine US (enc:=eQ) (λ_=>rfl) p1 ?_;(conv=>whnf);skip;refine ⟨rfl,_,rfl,?_⟩;(conv=>whnf);(repeat' ((first|(apply D5;omega)|apply CB)<;>conv=>whnf));have um:FM l l.length=n:=by rw[<-Y0,oz,htl]
   rw[um];exact FF (by rw[htl])
 ·obtain ⟨m,rfl⟩ : ∃ m,n=m+1:=⟨n-1,by omega⟩
  obtain ⟨x,hx⟩ : ∃ x,l[m]? = some x:=⟨_,zE (by omega)⟩;have hx0:x=0:=by
   rcases Classical.em (x=0) with h|h
   ·exact h
   ·exact (hz (Or.inr ⟨m,x,rfl,hx,h⟩)).elim
  have hx':l[((m+1:Nat)-1:Int).toNat]? = some x:=by rw[show ((m+1:Nat)-1:Int).toNat=m by omega];exact hx
  have eg:=N6 N.toRatGLib (hl.at hx) (by omega);have hs:=OO (x:=x);generalize sgn x.num=s at *;have hS : ∀ v,l[((m+1:Nat)-1:Int).toNat]? = some v->Ev L 97 [.agg (eQ v)] (.int .i64 s):=λ v h=>by
   obtain rfl:=Option.some.inj (hx'.symm.trans h);exact eg
  have hs0:=hs.2 hx0;(repeat' ((first|(apply BR<;>intro hc<;>try (exfalso;omega))|(apply D5;omega)|(refine CY (by assumption) ?_ rfl ?_;omega)|apply BA|refine BH (eg) ?_)<;>conv=>whnf));rw[show ((m+1:Nat):Int)-1=(m:Int) by omega];exact C7 [] (ih m (by omega) ⟨by omega,by rw[p2,FM,if_pos (by rw[List.getD_eq_getElem?_getD,hx];exact hx0)]⟩)
theorem AhB (N:t7 L) (S:GA) (n k:Nat) (h:S.Ok n k) (hn:n<=64):Ev L 136 [.agg (eS S)] (.bool true):=by
 have h1:=h.la;have h2:=h.lb;have h3:=h.lc;refine Ev.x N.SL rfl rfl ?_;(repeat' ((first|(apply BR<;>intro hc<;>try (exfalso;omega))|apply CB|apply BA)<;>conv=>whnf));refine DG (λ i=>S.a.length-i) (λ(i:Nat)=>i<=S.a.length) (λ i=>[(4,.int .i64 i)]) (λ_=>[]) [] [] 0 (by (conv=>whnf);exact ⟨rfl,rfl,rfl⟩) (by omega) ?_;intro i p1 ih;by_cases hi:i<S.a.length
 ·obtain ⟨r,hr⟩ : ∃ r,S.a[i]? = some r:=⟨_,zE hi⟩
  have hr':S.a[(i:Int).toNat]? = some r:=hr;have hrl:=h.lr r (zM hr);(repeat' ((first|(apply BR<;>intro hc<;>try (exfalso;omega))|(apply CJ;omega)|apply CB|(refine CY (by assumption) ?_ rfl ?_;omega)|apply BA)<;>conv=>whnf));exact C7 [] (ih (i+1) (by omega) (by omega))
 ·obtain rfl:i=S.a.length:=by omega
  clear ih;(repeat' ((first|(apply BR<;>intro hc<;>try (exfalso;omega))|apply BA)<;>conv=>whnf));exact I5 rfl
theorem Ahp (N:t7 L) (a b:List Rat) (q1 q2:Bool) (k s:Nat) (hl:a.length=b.length) (ha:Bs k a) (hb:Bs s b) (hK:a.length*(k+s+1)+k+s<2199023255552) (hal:a.length<=1099511627776):Ev L 137 [.sl q1 (a.map eQ),.sl q2 (b.map eQ)] (.agg (eQ (CI a b))):=by
 have hO:=ZZ N.toRefGLib 0 (by omega);refine Ev.x N.SH rfl rfl ?_;(repeat' ((first|apply BA|refine BH (hO) ?_)<;>conv=>whnf));refine I4 (λ i _=>a.length-i) (λ(i:Nat) (acc:Rat)=>i<=a.length/\acc=CI (a.take i) (b.take i)) (λ i acc=>[(6,.int .i64 i)]) (λ i acc=>[(5,5,.bx (eQ acc))]) [] [] 0 ((0:Int):Rat) (by (conv=>whnf);exact ⟨rfl,rfl,rfl⟩) ⟨by omega,by simp [CI]⟩ ?_;intro i acc ⟨p1,p2⟩ ih;by_cases hi:i<a.length
 ·obtain ⟨x,hx⟩ : ∃ x,a[i]? = some x:=⟨_,zE hi⟩
  obtain ⟨y,hy⟩ : ∃ y,b[i]? = some y:=⟨_,zE (by omega)⟩;have hx':a[(i:Int).toNat]? = some x:=hx;have hy':b[(i:Int).toNat]? = some y:=hy;have bx:=ha.at hx;have by':=hb.at hy
  have hM:=cM N.toRefGLib bx by' (by omega) (by omega)
  have qg:Bt (a.length*(k+s+1)) acc:=by
   rw[p2];have:=(ha.take i).dot (hb.take i);refine this.le (Nat.mul_le_mul_right _ ?_);rw[List.length_take];omega
  have hA:=mX N.toRefGLib qg (bx.mul by') (by omega) (by omega);have hst:=cE hx hy;(repeat' ((first|(apply BR<;>intro hc<;>try (exfalso;omega))|(apply CJ;omega)|apply CB|(refine CY (by assumption) ?_ rfl ?_;omega)|apply BA|refine BH (hM) ?_|refine BH (hA) ?_)<;>conv=>whnf));refine DE [] (by (conv=>whnf);exact ⟨rfl,rfl,rfl⟩) (ih (i+1) (acc+x*y) (by omega) ⟨by omega,?_⟩);rw[hst,<-p2]
 ·obtain rfl:i=a.length:=by omega
  clear ih;rw[XQ rfl]at p2;rw[<-p2];(repeat' ((first|(apply BR<;>intro hc<;>try (exfalso;omega))|apply CB|apply BA)<;>conv=>whnf));exact CK rfl (G3 _)
end Go.Eng
namespace Go.Eng
theorem MW {R:List (Option (Nat × List (List AV)))} {i e z:Nat} {es:List (List AV)} {K:Option (Nat × List (List AV))->Prop} (he:e=i) (hi:i<R.length) (h:K (some (z,es))):DC (R.set i (some (z,es))) e K:=by
 subst he;exact ⟨_,by rw[List.getElem?_set,if_pos rfl,if_pos hi],h⟩
theorem L3 {R:List (Option (Nat × List (List AV)))} {i e z:Nat} {es:List (List AV)} {K:Nat->List (List AV)->Prop} (he:e=i) (hi:i<R.length) (h:K z es):C9 (R.set i (some (z,es))) e K:=by
 subst he;exact ⟨z,es,by rw[List.getElem?_set,if_pos rfl,if_pos hi],h⟩
theorem V1 {R:List (Option (Nat × List (List AV)))} {i e z:Nat} {es es':List (List AV)} {K:List (Option (Nat × List (List AV)))->Prop} (he:e=i) (hl:es'.length=es.length) (h:K (R.set i (some (z,es')))):ET (R.set i (some (z,es))) e z es es' K:=by
 subst he;exact ⟨hl,by rw[List.set_set];exact h⟩
theorem OV {R:List (Option (Nat × List (List AV)))} {i e z:Nat} {es:List (List AV)} {K:List (Option (Nat × List (List AV)))->Prop} (he:e=i) (hi:i<R.length) (h:K (R.set i (some (z,es)))):EI R e z es K:=by
 subst he;exact ⟨hi,h⟩
end Go.Eng

namespace Go.Eng
open F
attribute [local irreducible] AH BJ B1 BD EZ CF CG CR CU DW B5 DT EG F7 DM CQ DR EE AR CW BW pw DC C9 EI ET E1 E7 EW D4 E8
variable {L:Lib}
set_option maxHeartbeats 16000000
def mz (Q:List (List Rat)) (n i:Nat):List (Option (Nat × List (List AV))):=fz none (C1 3 eQ (Q.take i)) n
theorem YD {Q:List (List Rat)} {n i:Nat} (hi:i<=n):(mz Q n i).length=n:=by
 refine iG ?_;simp only[C1,List.length_map,List.length_take];omega
theorem YF (Q:List (List Rat)) (n:Nat):mz Q n 0=List.replicate n none:=by simp [mz,fz]
theorem YE {Q:List (List Rat)} {n i:Nat} {row:List Rat} (h:Q[i]? = some row) (hi:i<n):(mz Q n i).set i (some (3,row.map eQ))=mz Q n (i+1):=by
 have h1:=(zS h).1;have hl:(C1 3 eQ (Q.take i)).length=i:=by simp only[C1,List.length_map,List.length_take];omega
 have:=iH (z:=none) (l:=C1 3 eQ (Q.take i)) (m:=n) (x:=some (3,row.map eQ)) (by omega)
 rw[hl]at this;rw[mz,this,mz,TI h];simp [C1]
theorem X9 {Q:List (List Rat)} {n:Nat} (h:Q.length=n):mz Q n n=C1 3 eQ Q:=by
 rw[mz,List.take_of_length_le (by omega)];exact iF (by simp [C1,h])
def cz (row:List Rat) (n j:Nat):List Rat:=fz 0 (row.take j) n
theorem vW {row:List Rat} {n j:Nat} (hj:j<=n):(cz row n j).length=n:=by
 refine iG ?_;rw[List.length_take];omega
theorem vY (row:List Rat) (n:Nat):cz row n 0=List.replicate n 0:=by simp [cz,fz]
theorem vX {row:List Rat} {n j:Nat} {x:Rat} (h:row[j]? = some x) (hj:j<n):(cz row n j).set j x=cz row n (j+1):=by
 have h1:=(zS h).1;have hl:(row.take j).length=j:=by rw[List.length_take];omega
 have:=iH (z:=(0:Rat)) (l:=row.take j) (m:=n) (x:=x) (by omega)
 rw[hl]at this;rw[cz,this,cz,TI h]
theorem vV {row:List Rat} {n:Nat} (h:row.length=n):cz row n n=row:=by
 rw[cz,List.take_of_length_le (by omega)];exact iF h
end Go.Eng

namespace Go.Eng
open Go.ChangeShapes Go.WideShapes Go.ChangeAt Go.RowKit
inductive Ty where
 | int (k:IntKind)
 | bool
 | sl (e:Ty)
 | nil
 | cons (a r:Ty)
def Ty.cells:Ty->Nat
 | .int _=>1 | .bool=>1 | .sl _=>1
 | .nil=>0
 | .cons a r=>a.cells+r.cells
def KJ:Ty->List AV->Prop
 | .int k,cs => ∃ n,cs=[.int k n]/\(Lit.int k n).wf=true
 | .bool,cs => ∃ b,cs=[.bool b]
 | .sl e,cs => ∃ es,cs=[.sl true es]/\es.length<=maxLen /\ ∀ x∈es,KJ e x
 | .nil,cs=>cs=[]
 | .cons a r,cs => ∃ x y,cs=x++y/\KJ a x/\KJ r y
theorem KJ.len : ∀ {ty:Ty} {cs:List AV},KJ ty cs->cs.length=ty.cells
 | .int _,cs,h=>by obtain ⟨n,rfl,_⟩:=h;rfl
 | .bool,cs,h=>by obtain ⟨n,rfl⟩:=h;rfl
 | .sl _,cs,h=>by obtain ⟨n,rfl,_⟩:=h;rfl
 | .nil,cs,h=>by rw[show cs=[] from h];rfl
 | .cons a r,cs,h=>by obtain ⟨x,y,rfl,h1,h2⟩:=h;simp [Ty.cells,KJ.len h1,KJ.len h2]
def QI (P:Program):Nat->TypeId->Ty->Bool
 | 0,_,_=>false
 | n+1,t,ty=>match P.underlying t,ty with
  | some (.int k),.int k'=>decide (k=k')
  | some .bool,.bool=>true
  | some (.slice e),.sl ew=>QI P n e ew&&(P.cellsOf e == ew.cells&&decide (0<ew.cells))
  | some (.struct fs),ty=>go (QI P n) fs.toList 0 ty&&P.cellsOf t == ty.cells
  | _,_=>false
where
 go (ok:TypeId->Ty->Bool):List Field->Nat->Ty->Bool
  | [],_,.nil=>true
  | f::fs,off,.cons a r=>(f.offset == off&&(ok f.type a&&P.cellsOf f.type == a.cells))&&go ok fs (off+a.cells) r
  | _,_,_=>false
section
variable {H:Type} {enc:TypeId × Value->H} {P:Program} {w:World} {base:Nat} {spare:Nat->Bool} {held:Bool} {R:Bool->Nat->Prop}
def K4 (w:World) (R:Bool->Nat->Prop) (as:List AV) (cs:List Value):Prop:=as.length=cs.length /\ ∀ (j:Nat) (a:AV) (c:Value),as[j]? = some a->cs[j]? = some c->Rd w R a c
theorem K4.one {a:AV} {c:Value} (h:Rd w R a c):K4 w R [a] [c]:=by
 refine ⟨rfl,λ j a' c' h1 h2 => ?_⟩;cases j with
 | zero=>simp at h1 h2;subst h1 h2;exact h
 | succ j=>simp at h1
theorem K4.append {as bs:List AV} {cs ds:List Value} (h1:K4 w R as cs) (h2:K4 w R bs ds):K4 w R (as++bs) (cs++ds):=by
 refine ⟨by simp [h1.1,h2.1],λ j a c ha hc => ?_⟩;by_cases hj:j<as.length
 ·rw[List.getElem?_append_left hj]at ha
  rw[List.getElem?_append_left (by rw[<-h1.1];exact hj)]at hc;exact h1.2 j a c ha hc
 ·rw[List.getElem?_append_right (by omega)]at ha
  rw[List.getElem?_append_right (by rw[<-h1.1];omega),<-h1.1]at hc;exact h2.2 _ a c ha hc
theorem tO (a:Addr) (i:Nat) (h:a.spot=none):a.add i=⟨a.block,a.off+i,none⟩:=by
 obtain ⟨b,o,s⟩:=a;simp only at h;subst h;exact KN b o i
theorem Ln (hR : ∀ b,b<w.heap.size->R true b) (m:Nat) (ih : ∀ (ty:Ty) (t:TypeId) (cs:List Value) (fuel:Nat) (x:DataW H × List MemPlace),QI P m t ty=true->DataW.trod enc P w base spare held fuel t cs=some x -> ∃ as,KJ ty as/\K4 w R as cs)
  (n:Nat) (cs:List Value) : ∀ (fs:List Field) (off:Nat) (ty:Ty),QI.go P (QI P m) fs off ty=true->(∀ f∈fs,∃ y,DataW.trod enc P w base spare held n f.type ((cs.drop f.offset).take (P.cellsOf f.type))=some y)->off+ty.cells=cs.length -> ∃ as,KJ ty as/\K4 w R as (cs.drop off)
 | [],off,ty,hok,_,hl=>by
  cases ty<;>simp only[QI.go,Bool.false_eq_true]at hok;simp only[Ty.cells]at hl;exact ⟨[],rfl,by rw[List.drop_of_length_le (by omega)];exact ⟨rfl,λ j a c h=>by simp at h⟩⟩
 | f::fs,off,ty,hok,hf,hl=>by
  cases ty<;>simp only[QI.go,Bool.false_eq_true,Bool.and_eq_true,beq_iff_eq]at hok;rename_i a r;obtain ⟨⟨h1,h2,h3⟩,h4⟩:=hok;simp only[Ty.cells]at hl;obtain ⟨y,hy⟩:=hf f List.mem_cons_self;rw[h1,h3]at hy;obtain ⟨Pc,g1,g2⟩:=ih a f.type _ n y h2 hy;obtain ⟨Pf,g3,g4⟩:=Ln hR m ih n cs fs (off+a.cells) r h4 (λ f' h'=>hf f' (List.mem_cons_of_mem _ h')) (by omega);refine ⟨Pc++Pf,⟨Pc,Pf,rfl,g1,g3⟩,?_⟩;have:=g2.append g4;rwa [show (cs.drop off).take a.cells++cs.drop (off+a.cells)=cs.drop off by rw[<-List.drop_drop,List.take_append_drop]]at this
theorem Lm (hR : ∀ b,b<w.heap.size->R true b) : ∀ (m:Nat) (ty:Ty) (t:TypeId) (cs:List Value) (fuel:Nat) (x:DataW H × List MemPlace),QI P m t ty=true->DataW.trod enc P w base spare held fuel t cs=some x -> ∃ as,KJ ty as/\K4 w R as cs
 | 0,_,_,_,_,_,h,_=>by simp [QI]at h
 | m+1,ty,t,cs,fuel,x,hok,h=>by
  have ih:=Lm hR m;simp only[QI]at hok;split at hok
  ·rename_i k k' hu
   obtain rfl:k=k':=by simpa using hok
   obtain ⟨n,rfl,_,hw⟩:=DataW.trod_int hu h;exact ⟨[.int k n],⟨n,rfl,hw⟩,K4.one (.int k n)⟩
  ·rename_i hu
   cases fuel with
   | zero=>simp [DataW.trod]at h
   | succ fuel =>
    unfold DataW.trod at h;rw[hu]at h;split at h<;>simp_all;exact ⟨_,⟨_,rfl⟩,K4.one (.bool _)⟩
  ·rename_i e ew hu
   simp only[Bool.and_eq_true,beq_iff_eq,decide_eq_true_eq]at hok;obtain ⟨h1,h2,h3⟩:=hok;rcases DataW.trod_slice hu h with ⟨rfl,_⟩|⟨a,len,cap,elems,rest,n,_,rfl,_,hb,hl,hm,hlen,u6,_,_⟩
   ·exact ⟨[.sl true []],⟨[],rfl,by simp,by simp⟩,K4.one (.dm true none 0)⟩
   ·have each : ∀ i,i<len -> ∃ as af,KJ ew as/\K4 w R as af/\af.length=ew.cells /\ ∀ j,j<ew.cells->w.cell? ((a.add (i*ew.cells)).add j)=af[j]? := by
     intro i hi;have:=u6 i hi;rw[h2,zE (by omega),Option.bind_eq_some_iff]at this;obtain ⟨af,hc,ht⟩:=this;obtain ⟨as,g1,g2⟩:=ih ew e af n _ h1 ht;obtain ⟨_,q1,q2⟩:=World.cells?_some hc;exact ⟨as,af,g1,g2,q1,q2⟩
    by_cases h0:len=0
    ·subst h0
     exact ⟨[.sl true []],⟨[],rfl,by simp,by simp⟩,K4.one (.dm true (some a) cap)⟩
    ·have ox:a.spot=none:=by
      obtain ⟨as,af,_,_,q1,q2⟩:=each 0 (by omega);have:=q2 0 h3;rw[zE (by omega)]at this;simpa [Addr.add] using World.cell?_spot this
     have fm:a.block<w.heap.size:=by
      obtain ⟨as,af,_,_,q1,q2⟩:=each 0 (by omega);have:=q2 0 h3;rw[zE (by omega)]at this;simpa [Addr.add] using ZL this
     have pick : ∃ f:Nat->List AV × List Value,∀ i,i<len->KJ ew (f i).1/\K4 w R (f i).1 (f i).2/\(f i).2.length=ew.cells /\ ∀ j,j<ew.cells->w.cell? ((a.add (i*ew.cells)).add j)=(f i).2[j]? := by
      refine ⟨λ i=>if hi:i<len then (Classical.choose (each i hi),Classical.choose (Classical.choose_spec (each i hi))) else ([],[]),λ i hi => ?_⟩;simp only[hi,dif_pos];exact Classical.choose_spec (Classical.choose_spec (each i hi))
     obtain ⟨f,hf⟩:=pick;have g6 : ∀ i e',((List.range len).map λ i=>(f i).1)[i]? = some e'->i<len/\e'=(f i).1:=by
      intro i e' he;rw[List.getElem?_map]at he;by_cases hi:i<len
      ·rw[List.getElem?_range hi]at he
       simp at he;exact ⟨hi,he.symm⟩
      ·rw[List.getElem?_eq_none (by simpa using hi)]at he
       cases he
     refine ⟨[.sl true ((List.range len).map λ i=>(f i).1)],⟨_,rfl,by simp;omega,λ x hx => ?_⟩,K4.one ?_⟩
     ·obtain ⟨i,hi,rfl⟩:=List.mem_map.1 hx
      exact (hf i (List.mem_range.1 hi)).1
     ·obtain ⟨ab,ao,as⟩:=a
      simp only at ox;subst ox;have oi:((List.range len).map λ i=>(f i).1).length=len:=by simp
      have:=Rd.sl (w:=w) (R:=R) true ((List.range len).map λ i=>(f i).1) ab ao ew.cells cap (λ i j=>((f i).2[j]?).getD default) (by intro e;have:=congrArg List.length e;simp at this;omega) h3 (hR ab fm) (by rw[oi];exact hl)
       (λ e' he=>by
        obtain ⟨i,hi,rfl⟩:=List.mem_map.1 he;exact (hf i (List.mem_range.1 hi)).1.len)
       (λ i e' he j c hc=>by
        obtain ⟨hi,rfl⟩:=g6 i e' he;obtain ⟨g1,g2,g3,g4⟩:=hf i hi;have hj:j<ew.cells:=by
         have:=(zS hc).1
         rwa [g1.len]at this
        have h5:=g4 j hj;rw[tO ⟨ab,ao,none⟩ (i*ew.cells) rfl,tO _ _ rfl]at h5;simp only at h5;rw[show ao+(i*ew.cells+j)=ao+i*ew.cells+j by omega,h5,zE (by omega)];rfl)
       (λ i e' he j c hc=>by
        obtain ⟨hi,rfl⟩:=g6 i e' he;obtain ⟨g1,g2,g3,g4⟩:=hf i hi;have hj:j<ew.cells:=by
         have:=(zS hc).1
         rwa [g1.len]at this
        have h6:(f i).2[j]? = some ((f i).2[j]'(by omega)):=zE _;rw[h6];exact g2.2 j c _ hc h6)
      rwa [oi]at this
  ·rename_i fs hu
   simp only[Bool.and_eq_true,beq_iff_eq]at hok;obtain ⟨h1,h2⟩:=hok;obtain ⟨xs,n,_,_,hl,hlen,hf⟩:=DataW.trod_struct hu h;have:=Ln hR m ih n cs fs.toList 0 _ h1 (λ f fo=>by
    obtain ⟨i,hi,rfl⟩:=List.getElem_of_mem fo;have h5:=hf i fs.toList[i] (by simp);rw[h5,zE (by simpa [hlen] using hi)];exact ⟨_,rfl⟩) (by rw[hl,h2];omega)
   simpa using this
  ·exact absurd hok (by simp)
theorem pG {S:Nat->Prop} {ty:Ty} {t:TypeId} {v:Value} {d:DataW H} {ps:List MemPlace} {m:Nat} (hok:QI P m t ty=true) (hv:v.cells.toList=[v]) (h:DataW.Trod enc P w base spare held t v d ps) :
  ∃ a,KJ ty [a]/\CA w.heap.size S ⟨λ_ _=>none,BT.emp,w⟩ a v:=by
 obtain ⟨fuel,hf⟩:=h;rw[hv]at hf;obtain ⟨as,h1,h2⟩:=Lm (R:=safe w.heap.size S ⟨λ_ _=>none,BT.emp,w⟩) (λ b hb=>Or.inr (Or.inr ⟨rfl,hb⟩)) m ty t [v] fuel _ hok hf;obtain ⟨a,rfl⟩ : ∃ a,as=[a]:=by
  have:=h2.1
  match as,this with
  | [a],_=>exact ⟨a,rfl⟩
 exact ⟨a,h1,.one (.rd (h2.2 0 a v rfl rfl))⟩
end
theorem Xp {B:Nat} {S:Nat->Prop} {m:M} : ∀ (j:Nat) (c:AV) (v:Value),([]:List AV)[j]? = some c->([]:List Value)[j]? = some v->CA B S m c v:=λ j c v h=>by simp at h
theorem lF {B:Nat} {S:Nat->Prop} {m:M} {a:AV} {u:Value} {as:List AV} {us:List Value} (h:CA B S m a u) (hr : ∀ (j:Nat) (c:AV) (v:Value),as[j]? = some c->us[j]? = some v->CA B S m c v) :
  ∀ (j:Nat) (c:AV) (v:Value),(a::as)[j]? = some c->(u::us)[j]? = some v->CA B S m c v
 | 0,c,v,h1,h2=>by simp at h1 h2;subst h1 h2;exact h
 | j+1,c,v,h1,h2=>hr j c v (by simpa using h1) (by simpa using h2)
theorem AjX {P:Program} {num:Nat->Nat} {L:Lib} (hP:ProgOK P num L) {f:Nat} {vs:List AV} (h:Ev L f vs (.bool true)) {S:Nat->Prop} {w:World} {us:List Value} (hl:vs.length=us.length)
  (ha : ∀ (j:Nat) (c:AV) (v:Value),vs[j]? = some c->us[j]? = some v->CA w.heap.size S ⟨λ_ _=>none,BT.emp,w⟩ c v) :
  Calls P (num f) us.toArray w λ e w'=>e = .returned (.bool true)/\Below w.heap.size w w':=by
 obtain ⟨n,hn⟩:=h;refine ((Xz hP n).pure f vs _ hn S w us hl ha).mono ?_;rintro e w' ⟨u,rfl,hb,n8,_⟩;refine ⟨?_,hb⟩;cases n8 with
 | ca hca=>cases hca with
  | one hcc=>cases hcc with
   | rd ik=>cases ik;rfl
end Go.Eng

namespace Go.Eng
abbrev tI:Ty := .int .i64
theorem Iu {α:Type} {enc:α->List AV} {p:α->Prop} : ∀ {es:List (List AV)},(∀ x∈es,∃ y,x=enc y/\p y) -> ∃ l:List α,es=l.map enc /\ ∀ y∈l,p y
 | [],_=>⟨[],rfl,by simp⟩
 | e::es,h=>by
  obtain ⟨y,rfl,hy⟩:=h e List.mem_cons_self;obtain ⟨l,rfl,hl⟩:=Iu (enc:=enc) (p:=p) λ x hx=>h x (List.mem_cons_of_mem _ hx)
  exact ⟨y::l,rfl,by simpa using ⟨hy,hl⟩⟩
theorem Ai9 {α:Type} {enc:α->List AV} {p:α->Prop} {e:Ty} {cs:List AV} (he : ∀ x,KJ e x -> ∃ y,x=enc y/\p y) (h:KJ (.sl e) cs) : ∃ l:List α,cs=[.sl true (l.map enc)]/\l.length<9223372036854775808 /\ ∀ y∈l,p y:=by
 obtain ⟨es,rfl,hl,hx⟩:=h;obtain ⟨l,rfl,hp⟩:=Iu (enc:=enc) (p:=p) λ x hm=>he x (hx x hm)
 refine ⟨l,rfl,?_,hp⟩;have:maxLen=9223372036854775807:=rfl;simp at hl;omega
theorem AlT {n:Int} (h:(Lit.int .i64 n).wf=true):LF n:=by
 simp only[Lit.wf,Bool.and_eq_true,decide_eq_true_eq]at h;have h1:IntKind.i64.min = -9223372036854775808:=rfl;have h2:IntKind.i64.max=9223372036854775807:=rfl;rw[h1,h2]at h;unfold LF;constructor<;>omega
theorem Jx {cs:List AV} (h:KJ tI cs) : ∃ n,cs=WC n/\LF n:=by obtain ⟨n,rfl,hw⟩:=h;exact ⟨n,rfl,AlT hw⟩
theorem Jy {cs:List AV} (h:KJ (.sl tI) cs) : ∃ l:List Int,cs=[.sl true (l.map WC)]/\l.length<9223372036854775808 /\ ∀ v∈l,LF v:=Ai9 (λ_=>Jx) h
end Go.Eng



namespace Go.Eng
open F
attribute [local irreducible] AH BJ B1 BD EZ CF CG CR CU DW B5 DT EG F7 DM CQ DR EE AR CW BW pw DC C9 EI ET E1 E7 EW D4 E8
variable {L:Lib}
set_option maxHeartbeats 8000000
abbrev eM (m:List (List Rat)):List (List AV):=m.map λ r=>[AV.sl false (r.map eQ)]
theorem uM (m:List (List Rat)):IR (eM m):=bV (λ r=>by simp only[FG,CT,and_true,true_and];exact KP r) m
theorem uP (m:List (List Rat)):CT (.sl false (eM m)):=by
 simp only[CT,true_and];exact uM m
end Go.Eng

namespace Go.Eng
variable {L:Lib}
theorem Tl {kk:List It} {tm:Tm} {M:Mem} {Q:Tm->Mem->Prop} {k s:Nat} {rows:List (Option (Nat × List (List AV)))} {w:List Nat} (m6:List (Option (Nat × List (List AV)))) (e:b9 M k=some (s,.vw w rows)) (hl:m6.length=w.length)
  (hw : ∀ (i t:Nat),w[i]? = some t -> ∃ r,rows[t]? = some r/\m6[i]? = some r) (hi : ∀ (i i' t:Nat),w[i]? = some t->w[i']? = some t->i=i') (u5:MY k tm=false) (hcm:LK k M=false)
  (h:AH L kk tm ((k,s,.mx m6)::M) Q):AH L kk tm M Q:=by
 intro σ st hr;obtain ⟨σ',hr'⟩:=hr.se e hl hw hi u5 hcm;exact h σ' st hr'
theorem sH {kk:List It} {tm:Tm} {M:Mem} {Q:Tm->Mem->Prop} {k s i j:Nat} {rows:List (Option (Nat × List (List AV)))} {a b:Option (Nat × List (List AV))} (e:b9 M k=some (s,.vw (((List.range rows.length).set i j).set j i) rows)) (ha:rows[i]? = some a) (hb:rows[j]? = some b) (u5:MY k tm=false) (hcm:LK k M=false)
  (h:AH L kk tm ((k,s,.mx ((rows.set i b).set j a))::M) Q):AH L kk tm M Q:=by
 have hi:=(zS ha).1;have hj:=(zS hb).1;have Hk : ∀ p,p<rows.length->(((List.range rows.length).set i j).set j i)[p]? = some (if p=j then i else if p=i then j else p):=λ p hp=>by
  rw[List.getElem?_set,List.getElem?_set,List.length_set,List.length_range];by_cases h1:j=p
  ·subst h1;simp [hp]
  ·rw[if_neg h1,if_neg (Ne.symm h1)]
   by_cases h2:i=p
   ·subst h2;simp [hp]
   ·rw[if_neg h2,if_neg (Ne.symm h2),List.getElem?_range hp]
 have hwl : ∀ p t,(((List.range rows.length).set i j).set j i)[p]? = some t->p<rows.length:=λ p t hp=>by
  have:=(zS hp).1
  simpa using this
 refine Tl ((rows.set i b).set j a) e (by simp) (λ p t hp => ?_) (λ p p' t hp vi => ?_) u5 hcm h
 ·have mi:=hwl p t hp
  rw[Hk p mi]at hp;obtain rfl:=Option.some.inj hp;rw[List.getElem?_set,List.getElem?_set,List.length_set];by_cases h1:p=j
  ·subst h1
   exact ⟨a,by rw[if_pos rfl];exact ha,by rw[if_pos rfl,if_pos mi]⟩
  ·rw[if_neg h1,if_neg (Ne.symm h1)]
   by_cases h2:p=i
   ·subst h2
    exact ⟨b,by rw[if_pos rfl];exact hb,by rw[if_pos rfl,if_pos mi]⟩
   ·rw[if_neg h2,if_neg (Ne.symm h2)]
    exact ⟨_,zE mi,zE mi⟩
 ·have mi:=hwl p t hp
  have Gq:=hwl p' t vi;rw[Hk p mi]at hp;rw[Hk p' Gq]at vi;have:=Option.some.inj (hp.trans vi.symm);split at this<;>split at this<;>(try split at this)<;>(try split at this)<;>omega
end Go.Eng

namespace Go.Eng
open F
attribute [local irreducible] AH BJ B1 BD EZ CF CG CR CU DW B5 DT EG F7 DM CQ DR EE AR CW BW pw DC C9 EI ET E1 E7 EW D4 E8
variable {L:Lib}
set_option maxHeartbeats 16000000
abbrev FE (q:Bool) (m:List (List Rat)):List (List AV):=m.map λ r=>[AV.sl q (r.map eQ)]
theorem T4 (m:List (List Rat)) (e:Int):CT (.tup [.sl false (eM m),.int .i64 e]):=by
 simp only[CT,FG,and_true,true_and];exact uM m
theorem nA (N:MatGLib L) (q q':Bool) (a:List (List Rat)) (n w:Nat) (hn:a.length=n) (hw : ∀ r∈a,r.length=w) (h1:1<=n/\n<=52) (h2:1<=w/\w<=52):Ev L 229 [.sl q (FE q' a)] (.bool true):=by
 obtain ⟨r0,hr0⟩ : ∃ r,a[0]? = some r:=⟨_,zE (by omega)⟩;have hr0':a[(0:Int).toNat]? = some r0:=hr0;have hl0:=hw r0 (zM hr0);refine Ev.x N.PH rfl rfl ?_;(repeat' ((first|(apply BR<;>intro hc<;>try (exfalso;omega))|apply CB|(refine CY (by assumption) ?_ rfl ?_;omega)|apply BA)<;>conv=>whnf));refine DG (λ i=>n-i) (λ(i:Nat)=>i<=n) (λ i=>[(20,.int .i64 i)]) (λ_=>[]) [] [] 0 (by (conv=>whnf);exact ⟨rfl,rfl,rfl⟩) (by omega) ?_;intro i p1 ih;by_cases hi:i<n
 ·obtain ⟨r,hr⟩ : ∃ r,a[i]? = some r:=⟨_,zE (by omega)⟩
  have hr':a[(i:Int).toNat]? = some r:=hr;have hl:=hw r (zM hr);(repeat' ((first|(apply BR<;>intro hc<;>try (exfalso;omega))|(apply CJ;omega)|apply CB|(refine CY (by assumption) ?_ rfl ?_;omega)|apply BA)<;>conv=>whnf));exact C7 [] (ih (i+1) (by omega) (by omega))
 ·obtain rfl:i=n:=by omega
  clear ih;(repeat' ((first|(apply BR<;>intro hc<;>try (exfalso;omega))|apply BA)<;>conv=>whnf));exact I5 rfl
theorem AhQ (N:MatGLib L) (n:Nat) (hn:1<=n/\n<=52):Ev L 230 [.int .i64 n] (.tup [.sl false (eM (FJ n)),.int .i64 0]):=by
 have hO:=LN N.toRatGLib 0 (by omega);have hI:=LN N.toRatGLib 1 (by omega);have hat : ∀ i,i<n->(FJ n)[i]? = some (FP n i):=λ i hi=>by simp [FJ,hi]
 have htl:(FJ n).length=n:=by simp [FJ]
 generalize hT:FJ n=T at *;refine Ev.x N.PE rfl rfl ?_;(repeat' ((first|(apply BR<;>intro hc<;>try (exfalso;omega))|apply BA)<;>conv=>whnf));unfold E1;refine ⟨⟨by omega,by omega,by simp only[FR];omega,by omega⟩,?_⟩;rw[Int.toNat_natCast];(conv=>whnf);skip;refine DG (λ i=>n-i) (λ(i:Nat)=>i<=n) (λ i=>[(17,.int .i64 i)]) (λ i=>[(14,14,.mx (mz T n i))]) [] [] 0 (by first|exact (by (conv=>whnf);exact ⟨rfl,rfl,rfl⟩)|(rw[<-YF T];exact (by (conv=>whnf);exact ⟨rfl,rfl,rfl⟩))) (by omega) ?_;intro i p1 ih;have hzl:=YD (Q:=T) p1;by_cases hi:i<n
 ·have hst:=YE (hat i hi) hi
  generalize mz T n i=R0 at *;(repeat' ((first|(apply BR<;>intro hc<;>try (exfalso;omega))|apply BA)<;>conv=>whnf));refine GU (enc:=eO) none n rfl (by omega) (by omega) ?_;(conv=>whnf);(repeat' ((first|(apply CE;omega)|fail)<;>conv=>whnf));refine CE (by simp) ?_;refine OV (i:=i) (by omega) (by omega) ?_;(conv=>whnf);(repeat' ((first|(apply CE;omega)|fail)<;>conv=>whnf));refine MW (by omega) (by omega) ?_;(conv=>whnf);skip;rw[show (List.map eO (List.replicate n none)).length=n by simp];refine DG (λ j=>n-j) (λ(j:Nat)=>j<=n) (λ j=>[(30,.int .i64 j)]) (λ j=>[(14,14,.mx (R0.set i (some (3,(FU (List.replicate j 0) n).map eO))))]) [] [] 0 (by first|exact (by (conv=>whnf);exact ⟨rfl,rfl,rfl⟩)|(rw[List.replicate_zero,<-KS];exact (by (conv=>whnf);exact ⟨rfl,rfl,rfl⟩))) (by omega) ?_;intro j r2 jh;have htj:(List.replicate j (0:Rat)).length=j:=by simp
  have hlf:=JO (l:=List.replicate j (0:Rat)) (m:=n) (by omega);by_cases hj:j<n
  ·have hs:=KU (l:=List.replicate j (0:Rat)) (m:=n) (x:=((0:Int):Rat)) (by omega)
   rw[htj,show List.replicate j (0:Rat)++[((0:Int):Rat)]=List.replicate (j+1) 0 from List.replicate_succ'.symm]at hs;generalize FU (List.replicate j (0:Rat)) n=W at *;(repeat' ((first|(apply BR<;>intro hc<;>try (exfalso;omega))|(apply CE;omega)|apply BA)<;>conv=>whnf));refine MW (by omega) (by omega) ?_;(conv=>whnf);(repeat' (refine BH (hO) ?_<;>conv=>whnf));refine CE (by rw[List.length_map];omega) ?_;(conv=>whnf);skip;refine L3 (by omega) (by omega) ?_;(conv=>whnf);refine G8 (enc:=eO) (some ((0:Int):Rat)) rfl (λ e=>by cases e<;>rfl) (by omega) ?_;(conv=>whnf);rw[hs];refine V1 (by omega) (by rw[List.length_map,List.length_map,<-hs,List.length_set]) ?_;(conv=>whnf);(repeat' ((first|(apply CJ;omega)|fail)<;>conv=>whnf));exact C7 [] (jh (j+1) (by omega) (by omega))
  obtain rfl:j=n:=by omega
  clear jh;rw[K9 (by omega)];(repeat' ((first|(apply BR<;>intro hc<;>try (exfalso;omega))|(apply CE;omega)|apply BA)<;>conv=>whnf));refine MW (by omega) (by omega) ?_;(conv=>whnf);(repeat' (refine BH (hI) ?_<;>conv=>whnf));refine CE (by rw[List.length_map];omega) ?_;(conv=>whnf);skip;refine L3 (by omega) (by omega) ?_;(conv=>whnf);refine G8 (enc:=eQ) ((1:Int):Rat) rfl (λ_=>rfl) (by omega) ?_;rw[show (List.replicate j (0:Rat)).set i ((1:Int):Rat)=FP j i from Y1 j i];(conv=>whnf);refine V1 (by omega) (by rw[List.length_map,List.length_map,TJ,htj]) ?_;rw[hst];(conv=>whnf);(repeat' ((first|(apply CJ;omega)|fail)<;>conv=>whnf));exact C7 [] (ih (i+1) (by omega) (by omega))
 ·obtain rfl:i=n:=by omega
  clear ih;rw[X9 (by omega)];(repeat' ((first|(apply BR<;>intro hc<;>try (exfalso;omega))|apply BA)<;>conv=>whnf));refine N1 (λ_=>rfl) rfl (by omega) ?_;(conv=>whnf);exact CK rfl (T4 T 0)
def xL (p:Bool × List Rat):List AV:=[.sl p.1 (p.2.map eQ)]
def KB (P:List (Bool × List Rat)) (i:Nat):List Rat:=((P.take i).map Prod.snd).flatten
theorem zN {P:List (Bool × List Rat)} {i:Nat} {p:Bool × List Rat} (h:P[i]? = some p):KB P (i+1)=KB P i++p.2:=by
 simp only[KB,List.take_add_one,h,Option.toList_some,List.map_append,List.map_cons,List.map_nil,List.flatten_append,List.flatten_cons,List.flatten_nil,List.append_nil]
theorem Ahm (N:MatGLib L) (q:Bool) (P:List (Bool × List Rat)) (n:Nat) (hn:P.length=n) (Al:n<=100) (hB : ∀ i,(KB P i).length<=2000) (h0:0<(KB P n).length):Ev L 228 [.sl q (P.map xL)] (.sl false ((KB P n).map eQ)):=by
 refine Ev.x N.S2 rfl rfl ?_;(repeat' ((first|apply CB|apply BA)<;>conv=>whnf));refine DG (λ i=>n-i) (λ(i:Nat)=>i<=n) (λ i=>[(11,.int .i64 i),(3,.int .i64 (KB P i).length)]) (λ_=>[]) [] [] 0 (by (conv=>whnf);exact ⟨rfl,rfl,rfl⟩) (by omega) ?_;intro i p1 ih;by_cases hi:i<n
 ·obtain ⟨p,hp⟩ : ∃ p,P[i]? = some p:=⟨_,zE (by omega)⟩
  have vi:P[(i:Int).toNat]? = some p:=hp;have hs:=zN hp;have hb:=hB i;have ji:=hB (i+1);have hl:(KB P (i+1)).length=(KB P i).length+p.2.length:=by rw[hs,List.length_append]
  (repeat' ((first|(apply BR<;>intro hc<;>try (exfalso;omega))|(apply CJ;omega)|apply CB|(refine CY (by assumption) ?_ rfl ?_;omega)|apply BA)<;>conv=>whnf))
  rw[show ((KB P i).length:Int)+(p.2.length:Int)=((KB P (i+1)).length:Nat) by rw[hl];omega];exact C7 [] (ih (i+1) (by omega) (by omega))
 ·obtain rfl:i=n:=by omega
  clear ih;have hb:=hB i;(repeat' ((first|(apply BR<;>intro hc<;>try (exfalso;omega))|apply BA)<;>conv=>whnf));refine HI 1000 N.S4 rfl rfl ?_;(repeat' ((first|(apply BR<;>intro hc<;>try (exfalso;omega))|(apply CE;omega)|(apply D5;omega)|apply BA)<;>conv=>whnf));refine CE ⟨by omega,by simp only[FR];omega,by omega⟩ ?_;(conv=>whnf);refine sL ⟨by omega,by omega⟩ ?_;(conv=>whnf);skip;refine ⟨rfl,_,rfl,?_⟩;(conv=>whnf);(repeat' (apply CB<;>conv=>whnf));refine DG (λ j=>i-j) (λ(j:Nat)=>j<=i) (λ j=>[(27,.int .i64 j),(6,.row 227022 0 3 0 (KB P j).length)]) (λ j=>[(227022,227022,.rw 3 ((KB P j).map eQ))]) [] [] 0 (by (conv=>whnf);exact ⟨rfl,rfl,rfl⟩) (by omega) ?_;intro j p2 jh;by_cases hj:j<i
  ·obtain ⟨p,hp⟩ : ∃ p,P[j]? = some p:=⟨_,zE (by omega)⟩
   have vi:P[(j:Int).toNat]? = some p:=hp;have hs:=zN hp;have hb:=hB j;have ji:=hB (j+1);have hl:(KB P (j+1)).length=(KB P j).length+p.2.length:=by rw[hs,List.length_append]
   (repeat' ((first|(apply BR<;>intro hc<;>try (exfalso;omega))|(refine CY (by assumption) ?_ rfl ?_;omega)|apply BA)<;>conv=>whnf))
   refine eH rfl (λ_=>rfl) (by omega) (by omega) ?_;rw[<-hs];(conv=>whnf);(repeat' ((first|(apply CJ;omega)|fail)<;>conv=>whnf));exact C7 [(227022,33)] (jh (j+1) (by omega) (by omega))
  ·obtain rfl:j=i:=by omega
   clear jh;(repeat' ((first|(apply BR<;>intro hc<;>try (exfalso;omega))|(refine GK (λ_=>rfl) rfl ?_ ?_;(first|rfl|simp))|apply BA)<;>conv=>whnf));exact CK rfl (by simp only[CT,true_and];exact KP _)
theorem Ahl (N:MatGLib L) (q q1 q2:Bool) (a b:List Rat) (ha:a.length<=1000) (hb:b.length<=1000) (h0:0<a.length):Ev L 228 [.sl q [[.sl q1 (a.map eQ)],[.sl q2 (b.map eQ)]]] (.sl false ((a++b).map eQ)):=by
 have:=Ahm N q [(q1,a),(q2,b)] 2 rfl (by omega) (λ i=>by
  rcases i with _|_|_|i<;>simp [KB]<;>omega) (by simp [KB];omega)
 simpa [KB,xL] using this
end Go.Eng

namespace Go.Eng
def HX (m:List (List Rat)) (X:List Rat):Prop := ∀ r∈m,CI r X=0
def comb (p f l:Rat) (r t:List Rat):List Rat:=List.zipWith (λ x y=>(x*p-y*f)/l) r t
theorem vJ {p f l:Rat} {r t:List Rat} (h:r.length=t.length):(comb p f l r t).length=r.length:=by simp [comb,h]
theorem vI (p f l:Rat) : ∀ (r t X:List Rat),r.length=t.length->CI (comb p f l r t) X=(p*CI r X-f*CI t X)/l
 | [],[],X,_=>by
  show CI [] X=_;simp only[CI,Rat.div_def];grind
 | x::r,y::t,[],_=>by
  simp only[comb,List.zipWith_cons_cons,CI,Rat.div_def];grind
 | x::r,y::t,z::X,h=>by
  have ih:=vI p f l r t X (by simpa using h);simp only[comb]at ih;simp only[comb,List.zipWith_cons_cons,CI,ih,Rat.div_def];grind
theorem Wq {p f l:Rat} {r t:List Rat} {j:Nat} {x y:Rat} (hx:r[j]? = some x) (hy:t[j]? = some y):(comb p f l r t)[j]? = some ((x*p-y*f)/l):=by
 simp [comb,List.getElem?_zipWith,hx,hy]
theorem UE {m:List (List Rat)} {i:Nat} {x r:List Rat} (h:r∈m.set i x):r=x \/ ∃ j,j≠i/\m[j]? = some r:=by
 obtain ⟨j,hj⟩:=List.getElem?_of_mem h;rw[List.getElem?_set]at hj;by_cases e:i=j
 ·subst e
  rw[if_pos rfl]at hj;split at hj
  ·exact Or.inl (Option.some.inj hj).symm
  ·cases hj
 ·rw[if_neg e]at hj
  exact Or.inr ⟨j,Ne.symm e,hj⟩
theorem AjV {m:List (List Rat)} {i k:Nat} {r t:List Rat} {p f l:Rat} (hi:m[i]? = some r) (hk:m[k]? = some t) (hik:k≠i) (hl:r.length=t.length) (hp:p≠0) (h0:l≠0) (X:List Rat):HX (m.set i (comb p f l r t)) X↔HX m X:=by
 have hc:=vI p f l r t X hl;have hil:=(zS hi).1;constructor
 ·intro h r' hr'
  have ht:CI t X=0:=h t (by
   refine zM (i:=k) ?_;rw[List.getElem?_set,if_neg (Ne.symm hik)];exact hk)
  have hn:CI (comb p f l r t) X=0:=h _ (zM (i:=i) (by rw[List.getElem?_set,if_pos rfl,if_pos hil]));rw[hc,ht]at hn;have hr0:CI r X=0:=by
   have e1:=Rat.div_mul_cancel h0 (a:=p*CI r X-f*0);rw[hn]at e1;have e2:p*CI r X=0:=by grind
   rcases Rat.mul_eq_zero.1 e2 with h|h
   ·exact absurd h hp
   ·exact h
  obtain ⟨j,hj⟩:=List.getElem?_of_mem hr';by_cases e:j=i
  ·subst e
   obtain rfl:=Option.some.inj (hi.symm.trans hj);exact hr0
  ·exact h r' (zM (i:=j) (by rw[List.getElem?_set,if_neg (Ne.symm e)];exact hj))
 ·intro h r' hr'
  rcases UE hr' with rfl|⟨j,_,hj⟩
  ·rw[hc,h r (zM hi),h t (zM hk),Rat.div_def];grind
  ·exact h r' (zM hj)
theorem AjU {m:List (List Rat)} {i k:Nat} {a b:List Rat} (hi:m[i]? = some a) (hk:m[k]? = some b) (X:List Rat):HX ((m.set i b).set k a) X↔HX m X:=by
 have hil:=(zS hi).1;have hkl:=(zS hk).1;constructor
 ·intro h r hr
  obtain ⟨j,hj⟩:=List.getElem?_of_mem hr;by_cases e1:j=k
  ·subst e1
   obtain rfl:=Option.some.inj (hk.symm.trans hj);by_cases e2:i=j
   ·subst e2
    obtain rfl:=Option.some.inj (hi.symm.trans hk);exact h _ (zM (i:=i) (by rw[List.getElem?_set,if_pos rfl,List.length_set,if_pos hil]))
   ·exact h _ (zM (i:=i) (by rw[List.getElem?_set,if_neg (Ne.symm e2),List.getElem?_set,if_pos rfl,if_pos hil]))
  ·by_cases e2:j=i
   ·subst e2
    obtain rfl:=Option.some.inj (hi.symm.trans hj);exact h _ (zM (i:=k) (by rw[List.getElem?_set,if_pos rfl,List.length_set,if_pos hkl]))
   ·exact h _ (zM (i:=j) (by rw[List.getElem?_set,if_neg (Ne.symm e1),List.getElem?_set,if_neg (Ne.symm e2)];exact hj))
 ·intro h r hr
  rcases UE hr with rfl|⟨j,_,hj⟩
  ·exact h _ (zM hi)
  ·rcases UE (zM hj) with rfl|⟨q,_,hq⟩
   ·exact h _ (zM hk)
   ·exact h _ (zM hq)
structure GP (m:List (List Rat)) (W c:Nat) (P:List Nat):Prop where
 lr : ∀ r∈m,r.length=W
 pl:P.length<=m.length
 inc : ∀ i j p q:Nat,i<j->P[i]? = some p->P[j]? = some q->p<q
 pb : ∀ p∈P,p<c
 nz : ∀ (i p:Nat) (r:List Rat),P[i]? = some p->m[i]? = some r->r.getD p 0≠0 /\ ∀ j,j<p->r.getD j 0=0
 zr : ∀ (i:Nat) (r:List Rat),P.length<=i->m[i]? = some r -> ∀ j,j<c->r.getD j 0=0
theorem GP.start {m:List (List Rat)} {W:Nat} (h : ∀ r∈m,r.length=W):GP m W 0 [] :=
 ⟨h,Nat.zero_le _,λ i j p q _ h=>by simp at h,(λ p h=>by cases h),(λ i p r h=>by simp at h),λ i r _ _ j hj=>absurd hj (by omega)⟩
theorem GP.skip {m:List (List Rat)} {W c:Nat} {P:List Nat} (h:GP m W c P) (hz : ∀ i r,P.length<=i->m[i]? = some r->r.getD c 0=0):GP m W (c+1) P :=
 ⟨h.lr,h.pl,h.inc,λ p hp=>Nat.lt_succ_of_lt (h.pb p hp),h.nz,λ i r hi hr j hj=>by
  by_cases e:j=c
  ·subst e;exact hz i r hi hr
  ·exact h.zr i r hi hr j (by omega)⟩
theorem GP.swap {m:List (List Rat)} {W c i k:Nat} {P:List Nat} {a b:List Rat} (h:GP m W c P) (hi:m[i]? = some a) (hk:m[k]? = some b) (h1:P.length<=i) (h2:P.length<=k):GP ((m.set i b).set k a) W c P:=by
 have hg : ∀ q,q<P.length->((m.set i b).set k a)[q]? = m[q]? := λ q hq=>by
  rw[List.getElem?_set,if_neg (by omega),List.getElem?_set,if_neg (by omega)]
 have hm : ∀ q r,P.length<=q->((m.set i b).set k a)[q]? = some r -> ∃ q',P.length<=q'/\m[q']? = some r:=λ q r hq hr=>by
  rw[List.getElem?_set]at hr;split at hr
  ·split at hr
   ·obtain rfl:=Option.some.inj hr;exact ⟨i,h1,hi⟩
   ·cases hr
  ·rw[List.getElem?_set]at hr
   split at hr
   ·split at hr
    ·obtain rfl:=Option.some.inj hr;exact ⟨k,h2,hk⟩
    ·cases hr
   ·exact ⟨q,hq,hr⟩
 refine ⟨λ r hr => ?_,by simpa using h.pl,h.inc,h.pb,λ q p r hp hr => ?_,λ q r hq hr j hj => ?_⟩
 ·rcases UE hr with rfl|⟨j,_,hj⟩
  ·exact h.lr _ (zM hi)
  ·rcases UE (zM hj) with rfl|⟨q,_,hq⟩
   ·exact h.lr _ (zM hk)
   ·exact h.lr _ (zM hq)
 ·rw[hg q (zS hp).1]at hr
  exact h.nz q p r hp hr
 ·obtain ⟨q',h3,h4⟩:=hm q r hq hr
  exact h.zr q' r h3 h4 j hj
theorem GP.xb {m:List (List Rat)} {W c:Nat} {P:List Nat} {t:List Rat} (h:GP m W c P) (ht:m[P.length]? = some t) (hn:t.getD c 0≠0) (hz : ∀ i r,P.length<i->m[i]? = some r->r.getD c 0=0):GP m W (c+1) (P++[c]):=by
 have mi:=(zS ht).1;refine ⟨h.lr,by simp;omega,λ i j p q ju hp hq => ?_,λ p hp => ?_,λ i p r hp hr => ?_,λ i r hi hr j hj => ?_⟩
 ·have hjl:=(zS hq).1
  rw[List.length_append,List.length_singleton]at hjl;rw[List.getElem?_append_left (by omega)]at hp;by_cases e:j<P.length
  ·rw[List.getElem?_append_left e]at hq
   exact h.inc i j p q ju hp hq
  ·rw[List.getElem?_append_right (by omega),show j-P.length=0 by omega]at hq
   obtain rfl:=Option.some.inj hq;exact h.pb p (zM hp)
 ·rcases List.mem_append.1 hp with hp|hp
  ·exact Nat.lt_succ_of_lt (h.pb p hp)
  ·obtain rfl:=List.mem_singleton.1 hp;omega
 ·by_cases e:i<P.length
  ·rw[List.getElem?_append_left e]at hp
   exact h.nz i p r hp hr
  ·have hil:=(zS hp).1
   rw[List.length_append,List.length_singleton]at hil;rw[List.getElem?_append_right (by omega),show i-P.length=0 by omega]at hp;obtain rfl:=Option.some.inj hp;obtain rfl:i=P.length:=by omega
   obtain rfl:=Option.some.inj (ht.symm.trans hr);exact ⟨hn,λ j hj=>h.zr P.length _ (Nat.le_refl _) ht j hj⟩
 ·rw[List.length_append,List.length_singleton]at hi
  by_cases e:j=c
  ·subst e;exact hz i r (by omega) hr
  ·exact h.zr i r (by omega) hr j (by omega)
theorem GP.diag {m:List (List Rat)} {W c:Nat} {P:List Nat} (h:GP m W c P) (hP:P.length=c) : ∀ i p:Nat,P[i]? = some p->p=i:=by
 have up : ∀ d i p:Nat,P[i]? = some p->i+d<c->p+d<c:=by
  intro d;induction d with
  | zero=>intro i p hp _;exact h.pb p (zM hp)
  | succ d ih =>
   intro i p hp hi;obtain ⟨q,hq⟩ : ∃ q,P[i+1]? = some q:=⟨_,zE (by omega)⟩;have h1:=h.inc i (i+1) p q (by omega) hp hq;have h2:=ih (i+1) q hq (by omega);omega
 have dn : ∀ i p:Nat,P[i]? = some p->i<=p:=by
  intro i;induction i with
  | zero=>intro p _;omega
  | succ i ih =>
   intro p hp;have hil:=(zS hp).1;obtain ⟨q,hq⟩ : ∃ q,P[i]? = some q:=⟨_,zE (by omega)⟩;have h1:=h.inc i (i+1) q p (by omega) hq hp;have h2:=ih q hq;omega
 intro i p hp;have hil:=(zS hp).1;have h1:=dn i p hp;have h2:=up (c-1-i) i p hp (by omega);omega
def EV (f:Nat->Rat):Nat->Rat
 | 0=>0
 | n+1=>EV f n+f n
theorem WX {f g:Nat->Rat} : ∀ n,(∀ j,j<n->f j=g j)->EV f n=EV g n
 | 0,_=>rfl
 | n+1,h=>by rw[EV,EV,WX n λ j hj=>h j (by omega),h n (by omega)]
theorem YX {f:Nat->Rat} : ∀ n,(∀ j,j<n->f j=0)->EV f n=0
 | 0,_=>rfl
 | n+1,h=>by rw[EV,YX n λ j hj=>h j (by omega),h n (by omega),Rat.add_zero]
theorem Mb {f:Nat->Rat} {n:Nat} : ∀ d,(∀ j,n<=j->f j=0)->EV f (n+d)=EV f n
 | 0,_=>rfl
 | d+1,h=>by rw[<-Nat.add_assoc,EV,Mb d h,h (n+d) (by omega),Rat.add_zero]
theorem kE {f:Nat->Rat} {k:Nat} : ∀ n,k<n->(∀ j,j<n->j≠k->f j=0)->EV f n=f k
 | n+1,hk,h=>by
  by_cases e:k=n
  ·subst e
   rw[EV,YX k λ j hj=>h j (by omega) (by omega),Rat.zero_add]
  ·rw[EV,kE n (by omega) λ j hj=>h j (by omega),h n (by omega) (Ne.symm e),Rat.add_zero]
theorem Mc (R y:Nat->Rat) (v:Rat) (k:Nat) : ∀ n,EV (λ j=>R j*(if j=k then v else y j)) n=EV (λ j=>R j*y j) n+if k<n then R k*(v-y k) else 0
 | 0=>by simp [EV,Rat.add_zero]
 | n+1=>by
  rw[EV,EV,Mc R y v k n];by_cases e:n=k
  ·subst e
   rw[if_pos rfl,if_neg (Nat.lt_irrefl n),if_pos (Nat.lt_succ_self n)];grind
  ·rw[if_neg e]
   by_cases h:k<n
   ·rw[if_pos h,if_pos (by omega)];grind
   ·rw[if_neg h,if_neg (by omega)];grind
theorem Lz (f:Nat->Rat) : ∀ n,EV f (n+1)=f 0+EV (λ j=>f (j+1)) n
 | 0=>by simp only[EV];grind
 | n+1=>by rw[EV,Lz f n,EV];grind
theorem U2 : ∀ (r X:List Rat) (n:Nat),r.length<=n->CI r X=EV (λ j=>r.getD j 0*X.getD j 0) n
 | [],X,n,_=>by rw[YX n λ j _=>by simp];rfl
 | x::r,[],n,_=>by rw[WB,YX n λ j _=>by simp]
 | x::r,y::X,0,h=>by simp at h
 | x::r,y::X,n+1,h=>by
  rw[Lz,CI,U2 r X n (by simpa using h)];simp
def UU (m:List (List Rat)) (i j:Nat):Rat:=(m.getD i []).getD j 0
theorem V4 {m:List (List Rat)} {i:Nat} {r:List Rat} (h:m[i]? = some r) (j:Nat):UU m i j=r.getD j 0:=by
 rw[UU,show m.getD i []=r by rw[List.getD_eq_getElem?_getD,h];rfl]
def ZK (R:Nat->Nat->Rat) (c:Nat):Prop := ∀ i,i<c->R i i≠0 /\ ∀ j,j<i->R i j=0
theorem Add {R:Nat->Nat->Rat} {c:Nat} (h:ZK R c) (f:Nat->Rat) : ∀ d,d<=c -> ∃ y:Nat->Rat,∀ i,c-d<=i->i<c->EV (λ j=>R i j*y j) c=f i
 | 0,_=>⟨λ_=>0,λ i h1 h2=>absurd h2 (by omega)⟩
 | d+1,hd=>by
  obtain ⟨y,hy⟩:=Add h f d (by omega);obtain ⟨k,hk⟩ : ∃ k,k=c-(d+1):=⟨_,rfl⟩;have hkc:k<c:=by omega
  refine ⟨λ j=>if j=k then y k+(f k-EV (λ j=>R k j*y j) c)/R k k else y j,λ i h1 h2 => ?_⟩;rw[Mc (R i) y _ k c,if_pos hkc];by_cases e:i=k
  ·subst e
   have h0:=(h i hkc).1;have:=Rat.div_mul_cancel h0 (a:=f i-EV (λ j=>R i j*y j) c);grind
  ·rw[hy i (by omega) h2,(h i h2).2 k (by omega)];grind
theorem Oi {R:Nat->Nat->Rat} {c:Nat} (h:ZK R c) {y:Nat->Rat} (hy : ∀ i,i<c->EV (λ j=>R i j*y j) c=0) : ∀ d,d<=c -> ∀ j,c-d<=j->j<c->y j=0
 | 0,_=>λ j h1 h2=>absurd h2 (by omega)
 | d+1,hd=>λ j h1 h2=>by
  have ih:=Oi h hy d (by omega);by_cases e:c-d<=j
  ·exact ih j e h2
  ·have h3:=hy j h2
   rw[kE c h2 λ q hq hn=>by
    by_cases e2:q<j
    ·rw[(h j h2).2 q e2,Rat.zero_mul]
    ·rw[ih q (by omega) hq,Rat.mul_zero]]at h3
   rcases Rat.mul_eq_zero.1 h3 with h4|h4
   ·exact absurd h4 (h j h2).1
   ·exact h4
theorem GP.low {m:List (List Rat)} {W c:Nat} {P:List Nat} (h:GP m W c P) : ∀ i p:Nat,P[i]? = some p->i<=p
 | 0,p,_=>Nat.zero_le p
 | i+1,p,hp=>by
  have hil:=(zS hp).1;obtain ⟨q,hq⟩ : ∃ q,P[i]? = some q:=⟨_,zE (by omega)⟩;have h1:=h.inc i (i+1) q p (by omega) hq hp;have h2:=h.low i q hq;omega
theorem GP.le {m:List (List Rat)} {W c:Nat} {P:List Nat} (h:GP m W c P):P.length<=c:=by
 cases e:P.length with
 | zero=>exact Nat.zero_le c
 | succ k =>
  obtain ⟨q,hq⟩ : ∃ q,P[k]? = some q:=⟨_,zE (by omega)⟩;have h1:=h.low k q hq;have h2:=h.pb q (zM hq);omega
theorem GP.wide {m:List (List Rat)} {W c n:Nat} {P:List Nat} (h:GP m W c P) (hP:P.length=m.length) (hn:c<=n):GP m W n P :=
 ⟨h.lr,h.pl,h.inc,λ p hp=>Nat.lt_of_lt_of_le (h.pb p hp) hn,h.nz,λ i r hi hr=>by
  have:=(zS hr).1
  omega⟩
theorem Nh {m:List (List Rat)} {W i n:Nat} {r X:List Rat} (hr:m[i]? = some r) (hl:r.length=W) (hn:n<=W) (hX : ∀ j,n<=j->X.getD j 0=0):CI r X=EV (λ j=>UU m i j*X.getD j 0) n:=by
 obtain ⟨d,rfl⟩:=Nat.exists_eq_add_of_le hn;rw[U2 r X (n+d) (by omega),Mb d λ j hj=>by rw[hX j hj,Rat.mul_zero]];exact WX n λ j _=>by rw[V4 hr]
theorem GP.tri {m:List (List Rat)} {W n c:Nat} {P:List Nat} (h:GP m W n P) (hc : ∀ i,i<c->P[i]? = some i):ZK (UU m) c:=λ i hi=>by
 have h1:=(zS (hc i hi)).1;obtain ⟨r,hr⟩ : ∃ r,m[i]? = some r:=⟨_,zE (Nat.lt_of_lt_of_le h1 h.pl)⟩;have:=h.nz i i r (hc i hi) hr;rw[V4 hr];exact ⟨this.1,λ j hj=>by rw[V4 hr];exact this.2 j hj⟩
theorem GP.full {m:List (List Rat)} {W n:Nat} {P:List Nat} (h:GP m W n P) (hP:P.length=n) (hW:n<=W) {X:List Rat} (hk:HX m X) (hX : ∀ j,n<=j->X.getD j 0=0) (j:Nat):X.getD j 0=0:=by
 have hd : ∀ i,i<n->P[i]? = some i:=λ i hi=>by
  obtain ⟨q,hq⟩ : ∃ q,P[i]? = some q:=⟨_,zE (by omega)⟩;rw[hq,h.diag hP i q hq]
 have ht:=h.tri hd;by_cases e:j<n
 ·refine Oi ht (y:=λ j=>X.getD j 0) (λ i hi => ?_) n (Nat.le_refl n) j (by omega) e
  obtain ⟨r,hr⟩ : ∃ r,m[i]? = some r:=⟨_,zE (by have:=h.pl;omega)⟩;rw[<-Nh hr (h.lr r (zM hr)) hW hX];exact hk r (zM hr)
 ·exact hX j (by omega)
theorem GP.gap {m:List (List Rat)} {W n:Nat} {P:List Nat} (h:GP m W n P) : ∀ c:Nat,c<=P.length->(∀ i:Nat,i<c->P[i]? = some i) \/ ∃ k,(∀ i,i<k->P[i]? = some i) /\ ∃ p:Nat,P[k]? = some p/\k<p
 | 0,_=>Or.inl λ i hi=>absurd hi (by omega)
 | c+1,hc=>by
  rcases h.gap c (by omega) with h1|h1
  ·obtain ⟨q,hq⟩ : ∃ q,P[c]? = some q:=⟨_,zE (by omega)⟩
   have h2:=h.low c q hq;by_cases e:q=c
   ·subst e
    exact Or.inl λ i hi=>by
     by_cases e:i=q
     ·subst e;exact hq
     ·exact h1 i (by omega)
   ·exact Or.inr ⟨c,h1,q,hq,by omega⟩
  ·exact Or.inr h1
theorem WF (f:Nat->Rat) (W j:Nat):((List.range W).map f).getD j 0=if j<W then f j else 0:=by
 rw[List.getD_eq_getElem?_getD,List.getElem?_map];by_cases h:j<W
 ·rw[List.getElem?_range h,if_pos h];rfl
 ·rw[List.getElem?_eq_none (by simp;omega),if_neg h];rfl
theorem GP.less {m:List (List Rat)} {W n:Nat} {P:List Nat} (h:GP m W n P) (hP:P.length<n) (hW:n<=W) : ∃ X:List Rat,X.length=W/\HX m X/\(∀ j,n<=j->X.getD j 0=0) /\ ∃ j,X.getD j 0≠0:=by
 obtain ⟨c,hcn,hc,hz⟩ : ∃ c,c<n/\(∀ i,i<c->P[i]? = some i) /\ ∀ i r,c<=i->m[i]? = some r -> ∀ j,j<=c->r.getD j 0=0:=by
  rcases h.gap P.length (Nat.le_refl _) with h1|⟨k,h1,p,h2,h3⟩
  ·exact ⟨P.length,hP,h1,λ i r hi hr j hj=>h.zr i r hi hr j (by omega)⟩
  ·refine ⟨k,Nat.lt_trans h3 (h.pb p (zM h2)),h1,λ i r hi hr j hj => ?_⟩
   by_cases e:i<P.length
   ·obtain ⟨q,hq⟩ : ∃ q,P[i]? = some q:=⟨_,zE e⟩
    refine (h.nz i q r hq hr).2 j ?_;by_cases e2:i=k
    ·subst e2
     obtain rfl:=Option.some.inj (h2.symm.trans hq);omega
    ·have:=h.inc k i p q (by omega) h2 hq
     omega
   ·exact h.zr i r (by omega) hr j (by have:=h.pb p (zM h2);omega)
 obtain ⟨y,hy⟩:=Add (h.tri hc) (λ i=>UU m i c) c (Nat.le_refl c);have hg : ∀ j,((List.range W).map λ j=>if j<c then y j else if j=c then (-1:Rat) else 0).getD j 0=if j<c then y j else if j=c then (-1:Rat) else 0:=λ j=>by
  rw[WF];by_cases e:j<W
  ·rw[if_pos e]
  ·rw[if_neg e,if_neg (by omega),if_neg (by omega)]
 refine ⟨(List.range W).map λ j=>if j<c then y j else if j=c then (-1:Rat) else 0,by simp,λ r hr => ?_,λ j hj => ?_,c,?_⟩
 ·obtain ⟨i,hi⟩:=List.getElem?_of_mem hr
  rw[Nh hi (h.lr r hr) (show c+1<=W by omega) λ j hj=>by rw[hg,if_neg (by omega),if_neg (by omega)],EV,hg,if_neg (Nat.lt_irrefl c),if_pos rfl];by_cases e:i<c
  ·rw[WX c (g:=λ j=>UU m i j*y j) λ j hj=>by rw[hg,if_pos hj],hy i (by omega) e];grind
  ·rw[YX c λ j hj=>by rw[V4 hi,hz i r (by omega) hi j (by omega),Rat.zero_mul],V4 hi,hz i r (by omega) hi c (Nat.le_refl c),Rat.zero_mul,Rat.add_zero]
 ·rw[hg,if_neg (by omega),if_neg (by omega)]
 ·rw[hg,if_neg (Nat.lt_irrefl c),if_pos rfl]
  decide
def bI (m a:List (List Rat)):Prop:=m.length=a.length /\ ∀ (i:Nat) (r:List Rat),a[i]? = some r -> ∃ s:Rat,s≠0/\m[i]? = some (r.map (· * s))
theorem ZR (x:Rat) : ∀ a b:List Rat,CI (a.map (· * x)) b=CI a b*x
 | [],b=>by simp [CI]
 | a::l,[]=>by rw[WB,WB,Rat.zero_mul]
 | a::l,b::k=>by
  simp only[List.map_cons,CI,ZR x l k];grind
theorem bI.ker {m a:List (List Rat)} (h:bI m a) (X:List Rat):HX m X↔HX a X:=by
 constructor
 ·intro hk r hr
  obtain ⟨i,hi⟩:=List.getElem?_of_mem hr;obtain ⟨s,hs,hm⟩:=h.2 i r hi;have:=hk _ (zM hm);rw[ZR]at this;rcases Rat.mul_eq_zero.1 this with h|h
  ·exact h
  ·exact absurd h hs
 ·intro hk r hr
  obtain ⟨i,hi⟩:=List.getElem?_of_mem hr;obtain ⟨q,hq⟩ : ∃ q,a[i]? = some q:=⟨_,zE (by have:=(zS hi).1;have:=h.1;omega)⟩;obtain ⟨s,hs,hm⟩:=h.2 i q hq;obtain rfl:=Option.some.inj (hi.symm.trans hm);rw[ZR,hk q (zM hq),Rat.zero_mul]
def d5 (a b:List (List Rat)):List (List Rat):=List.zipWith (· ++ ·) a b
def NS (n:Nat) (a:List (List Rat)):Prop := ∀ X:List Rat,X.length=n->HX a X -> ∀ j,X.getD j 0=0
theorem U1 : ∀ (u y v z:List Rat),u.length=y.length->CI (u++v) (y++z)=CI u y+CI v z
 | [],[],v,z,_=>by simp [CI,Rat.zero_add]
 | x::u,w::y,v,z,h=>by
  simp only[List.cons_append,CI,U1 u y v z (by simpa using h)];grind
theorem WH {a b:List (List Rat)} {i:Nat} {r s:List Rat} (hr:a[i]? = some r) (hs:b[i]? = some s):(d5 a b)[i]? = some (r++s):=by
 simp [d5,List.getElem?_zipWith,hr,hs]
theorem oM {n:Nat} {a b:List (List Rat)} (hl:a.length=b.length) (ha : ∀ r∈a,r.length=n) (y z:List Rat) (hy:y.length=n):HX (d5 a b) (y++z) ↔ ∀ (i:Nat) (r s:List Rat),a[i]? = some r->b[i]? = some s->CI r y+CI s z=0:=by
 constructor
 ·intro h i r s hr hs
  rw[<-U1 r y s z (by rw[ha r (zM hr),hy])];exact h _ (zM (WH hr hs))
 ·intro h q hq
  obtain ⟨i,hi⟩:=List.getElem?_of_mem hq;have hil:=(zS hi).1;simp only[d5,List.length_zipWith]at hil;obtain ⟨r,hr⟩ : ∃ r,a[i]? = some r:=⟨_,zE (by omega)⟩;obtain ⟨s,hs⟩ : ∃ s,b[i]? = some s:=⟨_,zE (by omega)⟩;obtain rfl:=Option.some.inj ((WH hr hs).symm.trans hi);rw[U1 r y s z (by rw[ha r (zM hr),hy])];exact h i r s hr hs
theorem Zl {X:List Rat} (h : ∀ j,X.getD j 0=0) (r:List Rat):CI r X=0:=by
 rw[U2 r X r.length (Nat.le_refl _)];exact YX _ λ j _=>by rw[h,Rat.mul_zero]
theorem AkI {m a b:List (List Rat)} {w n:Nat} {P:List Nat} (h:GP m (n+w) n P) (hk : ∀ X,HX m X↔HX (d5 a b) X) (hl:a.length=b.length) (ha : ∀ r∈a,r.length=n):P.length=n↔NS n a:=by
 constructor
 ·intro hP X hX hka j
  have h1:HX m (X++List.replicate w 0):=(hk _).2 ((oM hl ha X _ hX).2 λ i r s hr hs=>by
   rw[hka r (zM hr),cF,Rat.add_zero])
  by_cases e:j<n
  ·have h2:=h.full hP (by omega) h1 (λ j hj=>by
    rw[List.getD_eq_getElem?_getD,List.getElem?_append_right (by omega),List.getElem?_replicate];split<;>rfl) j
   rw[List.getD_eq_getElem?_getD,List.getElem?_append_left (by omega)]at h2;rw[List.getD_eq_getElem?_getD];exact h2
  ·rw[List.getD_eq_getElem?_getD,List.getElem?_eq_none (by omega)];rfl
 ·intro hns
  have h1:=h.le;rcases Nat.lt_or_ge P.length n with hP|hP
  ·exfalso
   obtain ⟨X,hX,hX1,Pu,j,hj⟩:=h.less hP (by omega);have h2:=(hk _).1 hX1;rw[<-List.take_append_drop n X]at h2;have htl:(X.take n).length=n:=by simp;omega
   have h3:=(oM hl ha _ _ htl).1 h2;have hz : ∀ q,(X.drop n).getD q 0=0:=λ q=>by
    have:=Pu (n+q) (by omega)
    rw[List.getD_eq_getElem?_getD]at this;rw[List.getD_eq_getElem?_getD,List.getElem?_drop];exact this
   have h4:=hns (X.take n) htl (λ r hr=>by
    obtain ⟨i,hi⟩:=List.getElem?_of_mem hr;obtain ⟨s,hs⟩ : ∃ s,b[i]? = some s:=⟨_,zE (by have:=(zS hi).1;omega)⟩;have:=h3 i r s hi hs;rw[Zl hz,Rat.add_zero]at this;exact this) j
   by_cases e:j<n
   ·rw[List.getD_eq_getElem?_getD,List.getElem?_take_of_lt e,<-List.getD_eq_getElem?_getD]at h4
    exact hj h4
   ·exact hj (Pu j (by omega))
  ·omega
def iU (w c:Nat):List Rat:=(List.range w).map λ q=>if q=c then -1 else 0
theorem wZ {r:List Rat} {w c:Nat} (hr:r.length=w) (hc:c<w):CI r (iU w c) = - r.getD c 0:=by
 rw[U2 r _ w (by omega),kE w hc λ j hj hn=>by rw[iU,WF,if_pos hj,if_neg hn,Rat.mul_zero],iU,WF,if_pos hc,if_pos rfl];grind
theorem Wp {m a b:List (List Rat)} {w n c:Nat} {y:List Rat} (hk : ∀ X,HX m X↔HX (d5 a b) X) (hl:a.length=b.length) (ha : ∀ r∈a,r.length=n) (hb : ∀ r∈b,r.length=w) (hc:c<w) (hy:y.length=n) (hm : ∀ r∈m,r.length=n+w) (hs : ∀ r∈m,CI (r.take n) y=r.getD (n+c) 0) {i:Nat} {r s:List Rat} (hr:a[i]? = some r) (hi:b[i]? = some s):CI r y=s.getD c 0:=by
 have h1:HX m (y++iU w c):=λ q hq=>by
  have nk:=hm q hq;have e:q=q.take n++q.drop n:=(List.take_append_drop n q).symm;rw[e,U1 _ _ _ _ (by rw[List.length_take,hy];omega),hs q hq,wZ (by rw[List.length_drop];omega) hc];have:(q.drop n).getD c 0=q.getD (n+c) 0:=by rw[List.getD_eq_getElem?_getD,List.getElem?_drop,<-List.getD_eq_getElem?_getD]
  rw[this];grind
 have h2:=(oM hl ha y _ hy).1 ((hk _).1 h1) i r s hr hi;rw[wZ (hb s (zM hi)) hc]at h2;grind
def WK (y:Nat->List Rat) (n:Nat):List (List Rat):=(List.range n).map λ i:Nat=>(List.range n).map λ c=>(y c).getD i 0
theorem Aku {y:Nat->List Rat} {n c:Nat} (hy:(y c).length=n) (hc:c<n):ED (WK y n) c=y c:=by
 refine List.ext_getElem? λ i => ?_
 simp only[ED,WK,List.map_map,List.getElem?_map];by_cases h:i<n
 ·rw[List.getElem?_range h,Option.map_some,Function.comp_apply,WF,if_pos hc,List.getD_eq_getElem?_getD,zE (by omega)];rfl
 ·rw[List.getElem?_eq_none (by simp;omega),List.getElem?_eq_none (by omega)];rfl
theorem rW (n i j:Nat):(FP n i).getD j 0=if j<n then (if j=i then 1 else 0) else 0:=by
 rw[FP,WF];by_cases h:j<n
 ·rw[if_pos h,if_pos h]
  by_cases e:j=i
  ·rw[if_pos e,if_pos (by omega)]
  ·rw[if_neg e,if_neg (by omega)]
 ·rw[if_neg h,if_neg h]
theorem AjL {a:List (List Rat)} {n:Nat} {y:Nat->List Rat} (ha:a.length=n) (hy : ∀ c,c<n->(y c).length=n) (h : ∀ (c i:Nat) (r:List Rat),c<n->a[i]? = some r->CI r (y c)=if c=i then 1 else 0):EA a (WK y n) n=FJ n:=by
 refine List.ext_getElem? λ i => ?_
 simp only[EA,FJ,List.getElem?_map];by_cases hi:i<n
 ·obtain ⟨r,hr⟩ : ∃ r,a[i]? = some r:=⟨_,zE (by omega)⟩
  rw[hr,List.getElem?_range hi,Option.map_some,Option.map_some];congr 1;refine List.map_congr_left λ c hc => ?_
  have hc':=List.mem_range.1 hc;rw[Aku (hy c hc') hc',h c i r hc' hr];by_cases e:c=i
  ·rw[if_pos e,if_pos (by omega)]
  ·rw[if_neg e,if_neg (by omega)]
 ·rw[List.getElem?_eq_none (by omega),List.getElem?_eq_none (by simp;omega)];rfl
theorem Alu {a:List (List Rat)} {n:Nat} (ha : ∀ r∈a,r.length=n) {X Y:List Rat} (hX:X.length=n) (hY:Y.length=n) (h:CO a X=CO a Y) (hns:NS n a):X=Y:=by
 have h1:=hns ((List.range n).map λ j=>X.getD j 0-Y.getD j 0) (by simp) (λ r hr=>by
  obtain ⟨i,hi⟩:=List.getElem?_of_mem hr;have e:CI r X=CI r Y:=by
   have:=congrArg (·[i]?) h
   simp only[CO,List.getElem?_map,hi,Option.map_some,Option.some.injEq]at this;exact this
  have hs : ∀ k,EV (λ j=>r.getD j 0*((List.range n).map λ j=>X.getD j 0-Y.getD j 0).getD j 0) k=EV (λ j=>r.getD j 0*X.getD j 0) k-EV (λ j=>r.getD j 0*Y.getD j 0) k:=by
   intro k;induction k with
   | zero=>simp only[EV];grind
   | succ k ih =>
    rw[EV,EV,EV,ih,WF];by_cases e:k<n
    ·rw[if_pos e];grind
    ·rw[if_neg e,List.getD_eq_getElem?_getD,List.getD_eq_getElem?_getD,List.getD_eq_getElem?_getD,List.getElem?_eq_none (show X.length<=k by omega),List.getElem?_eq_none (show Y.length<=k by omega)]
     simp only[Option.getD_none];grind
  rw[U2 r _ r.length (Nat.le_refl _),hs,<-U2 r X _ (Nat.le_refl _),<-U2 r Y _ (Nat.le_refl _),e];grind)
 refine List.ext_getElem? λ j => ?_
 by_cases e:j<n
 ·have:=h1 j
  rw[WF,if_pos e]at this;have h2:X.getD j 0=Y.getD j 0:=by grind
  rw[List.getD_eq_getElem?_getD,List.getD_eq_getElem?_getD,zE (by omega),zE (by omega)]at h2;rw[zE (by omega),zE (by omega)];exact congrArg some h2
 ·rw[List.getElem?_eq_none (by omega),List.getElem?_eq_none (by omega)]
theorem Ia {a:List (List Rat)} {n i:Nat} (ha : ∀ r∈a,r.length=n) (hi:i<n):CO a (FP n i)=ED a i:=by
 refine List.map_congr_left λ r hr => ?_
 rw[U2 r _ n (by rw[ha r hr];exact Nat.le_refl n),kE n hi λ j hj hn=>by rw[rW,if_pos hj,if_neg hn,Rat.mul_zero],rW,if_pos hi,if_pos rfl,Rat.mul_one]
theorem Aka {a b:List (List Rat)} {n:Nat} (ha:Sq n a) (hb:Sq n b) (h : ∀ c,c<n->ED a c=ED b c):a=b:=by
 refine List.ext_getElem? λ i => ?_
 by_cases hi:i<n
 ·obtain ⟨r,hr⟩ : ∃ r,a[i]? = some r:=⟨_,zE (by rw[ha.l];exact hi)⟩
  obtain ⟨s,hs⟩ : ∃ s,b[i]? = some s:=⟨_,zE (by rw[hb.l];exact hi)⟩;rw[hr,hs];congr 1;refine List.ext_getElem? λ j => ?_
  have h1:=ha.at hr;have h2:=hb.at hs;by_cases hj:j<n
  ·have:=congrArg (·[i]?) (h j hj)
   simp only[ED,List.getElem?_map,hr,hs,Option.map_some,Option.some.injEq]at this;rw[List.getD_eq_getElem?_getD,List.getD_eq_getElem?_getD,zE (by omega),zE (by omega)]at this;rw[zE (by omega),zE (by omega)];exact congrArg some this
  ·rw[List.getElem?_eq_none (by omega),List.getElem?_eq_none (by omega)]
 ·rw[List.getElem?_eq_none (by rw[ha.l];omega),List.getElem?_eq_none (by rw[hb.l];omega)]
theorem AjE {a v:List (List Rat)} {n:Nat} (ha:Sq n a) (hv:Sq n v) (hns:NS n a) (h:EA a v n=FJ n):EA v a n=FJ n:=by
 refine Aka (Sq.mul hv.l a) (Sq.id n) λ c hc => ?_
 have hm:=Sq.mul hv.l a (n:=n);have hu:(FP n c).length=n:=by simp [FP]
 rw[<-Ia hm.r hc,<-Ia (Sq.id n).r hc,X8 hu];refine Alu ha.r (by rw[LA,hm.l]) hu ?_ hns;rw[MH v a _ ha.r,<-MH a v _ hv.r,h,X8 (by rw[LA,ha.l])]
end Go.Eng

namespace Go.Eng
theorem Bt.wz {k:Nat} {y:Rat} (h:Bt k y):Bt k y⁻¹:=by
 rw[Rat.inv_def];rcases Int.natAbs_eq y.num with e|e
 ·rw[e,Rat.divInt_ofNat]
  exact Bt.mk (by simpa using h.2) h.1
 ·rw[e,Rat.divInt_neg',Rat.divInt_ofNat]
  exact Bt.mk (by simpa using h.2) h.1
theorem Bt.divL {k l:Nat} {x y:Rat} (hx:Bt k x) (hy:Bt l y):Bt (k+l) (x/y):=by
 rw[Rat.div_def];exact hx.mul hy.wz
theorem Bt.negL {k:Nat} {x:Rat} (h:Bt k x):Bt k (-x):=⟨by rw[Rat.neg_num,Int.natAbs_neg];exact h.1,by rw[Rat.neg_den];exact h.2⟩
theorem Bt.subL {k l:Nat} {x y:Rat} (hx:Bt k x) (hy:Bt l y):Bt (k+l+1) (x-y):=by
 rw[Rat.sub_eq_add_neg];exact hx.add hy.negL
theorem Bt.ub {k:Nat} {x p y f l:Rat} (hx:Bt k x) (hp:Bt k p) (hy:Bt k y) (hf:Bt k f) (hl:Bt k l):Bt (5*k+1) ((x*p-y*f)/l) :=
 (((hx.mul hp).subL (hy.mul hf)).divL hl).le (by omega)
theorem vK {p f l:Rat} : ∀ {r t:List Rat} {z:Rat},z∈comb p f l r t -> ∃ x∈r,∃ y∈t,z=(x*p-y*f)/l
 | [],_,z,h=>by simp [comb]at h
 | _::_,[],z,h=>by simp [comb]at h
 | x::r,y::t,z,h=>by
  simp only[comb,List.zipWith_cons_cons,List.mem_cons]at h;rcases h with h|h
  ·exact ⟨x,List.mem_cons_self,y,List.mem_cons_self,h⟩
  ·obtain ⟨a,ha,b,hb,e⟩:=vK (r:=r) (t:=t) h
   exact ⟨a,List.mem_cons_of_mem _ ha,b,List.mem_cons_of_mem _ hb,e⟩
theorem Bs.comb {k:Nat} {r t:List Rat} {p f l:Rat} (hr:Bs k r) (ht:Bs k t) (hp:Bt k p) (hf:Bt k f) (hl:Bt k l):Bs (5*k+1) (comb p f l r t):=λ z hz=>by
 obtain ⟨x,hx,y,hy,rfl⟩:=vK hz;exact Bt.ub (hr x hx) hp (ht y hy) hf hl
theorem lV {p f l:Rat} : ∀ {r t:List Rat},r.length=t.length -> ∀ j,(comb p f l r t).getD j 0=(r.getD j 0*p-t.getD j 0*f)/l
 | [],[],_,j=>by simp [comb,Rat.div_def,Rat.zero_mul,Rat.sub_eq_add_neg,Rat.neg_zero,Rat.add_zero]
 | x::r,y::t,_,0=>by simp [comb]
 | x::r,y::t,h,j+1=>by
  have:=lV (p:=p) (f:=f) (l:=l) (r:=r) (t:=t) (by simpa using h) j
  simp only[comb]at this;simpa [comb] using this
def YR (s x:Rat):Rat:=s*(((s*x).den:Nat):Rat)
def C6 (r:List Rat):Rat:=r.foldl YR 1
theorem qI (r:List Rat) (x:Rat):C6 (r++[x])=YR (C6 r) x:=by rw[C6,List.foldl_append];rfl
theorem Ak5 {s x:Rat} (h:s≠0):YR s x≠0:=by
 intro e;rcases Rat.mul_eq_zero.1 e with e|e
 ·exact h e
 ·have:=(s*x).den_pos
  have:((s*x).den:Rat)=((0:Nat):Rat):=e
  have:=Rat.natCast_inj.1 this
  omega
theorem qH (r:List Rat):C6 r≠0:=by
 have : ∀ (r:List Rat) (s:Rat),s≠0->r.foldl YR s≠0:=by
  intro r;induction r with
  | nil=>intro s h;exact h
  | cons x r ih=>intro s h;exact ih _ (Ak5 h)
 exact this r 1 (by decide)
theorem Ak4 {a k:Nat} {s x:Rat} (hs:Bt a s) (hx:Bt k x):Bt (2*a+k) (YR s x):=by
 have h1:=(hs.mul hx).2;have h2:Bt (a+k) (((s*x).den:Nat):Rat):=by
  have:=Bt.ofInt (k:=a+k) (z:=(((s*x).den:Nat):Int)) (by simpa using h1)
  rwa [Rat.intCast_natCast]at this
 exact (hs.mul h2).le (by omega)
theorem jR {k:Nat} (hk:1<=k) : ∀ {r:List Rat},Bs k r->Bt (3^r.length*k-k) (C6 r):=by
 have : ∀ (r:List Rat) (s:Rat) (i:Nat),Bs k r->Bt (3^i*k-k) s->Bt (3^(i+r.length)*k-k) (r.foldl YR s):=by
  intro r;induction r with
  | nil=>intro s i _ h;exact h
  | cons x r ih =>
   intro s i hr h;have h1:=Ak4 h (hr x List.mem_cons_self);have h2:=ih (YR s x) (i+1) (λ y hy=>hr y (List.mem_cons_of_mem _ hy)) (h1.le (by
    have:1<=3^i:=Nat.one_le_pow _ _ (by omega)
    have e:3^(i+1)*k=3*(3^i*k):=by rw[Nat.pow_succ];rw[Nat.mul_comm (3^i) 3,Nat.mul_assoc]
    have h3:k<=3^i*k:=Nat.le_mul_of_pos_left k (by omega);rw[e];omega))
   rw[List.length_cons,show i+(r.length+1)=i+1+r.length by omega];exact h2
 intro r hr;have:=this r 1 0 hr (Bt.one _);rwa [Nat.zero_add]at this
def whole (m:List (List Rat)):List (List Rat):=m.map λ r=>r.map (· * C6 r)
theorem AlU (m:List (List Rat)):bI (whole m) m:=⟨by simp [whole],λ i r hr=>⟨C6 r,qH r,by simp [whole,hr]⟩⟩
theorem sA {m:List (List Rat)} {W:Nat} (h : ∀ r∈m,r.length=W) : ∀ r∈whole m,r.length=W:=λ r hr=>by
 obtain ⟨q,hq,rfl⟩:=List.mem_map.1 hr;simpa using h q hq
theorem sB {m:List (List Rat)} {W k:Nat} (hk:1<=k) (h : ∀ r∈m,r.length=W) (hb:Ms k m):Ms (3^W*k) (whole m):=λ r hr=>by
 obtain ⟨q,hq,rfl⟩:=List.mem_map.1 hr;have h1:=jR hk (hb q hq);rw[h q hq]at h1;intro x hx;obtain ⟨y,hy,rfl⟩:=List.mem_map.1 hx;have h2:k<=3^W*k:=Nat.le_mul_of_pos_left k (Nat.pow_pos (by omega));exact ((hb q hq y hy).mul h1).le (by omega)
theorem sC {m:List (List Rat)} {W k:Nat} (hk:1<=k) (h : ∀ r∈m,r.length=W) (hb:Ms k m) : ∀ r∈m,∀ j,Bt (3^W*k) (C6 (r.take j)):=λ r hr j=>(jR hk ((hb r hr).take j)).le (by
 have:3^(r.take j).length<=3^W:=Nat.pow_le_pow_right (by omega) (by rw[List.length_take,h r hr];omega)
 have:=Nat.mul_le_mul_right k this
 omega)
theorem rY (k W:Nat):k<=3^W*k:=Nat.le_mul_of_pos_left k (Nat.pow_pos (by omega))
def JR:List (List Rat)->List Nat->Rat
 | r::m,p::P=>r.getD p 0*JR m P
 | _,_=>1
theorem aD : ∀ m,JR m []=1
 | []=>rfl
 | _::_=>rfl
theorem jE : ∀ (m:List (List Rat)) (P:List Nat) (i:Nat) (x:List Rat),P.length<=i->JR (m.set i x) P=JR m P
 | [],_,_,_,_=>rfl
 | _::_,[],_,_,_=>by rw[aD,aD]
 | r::m,p::P,0,x,h=>by simp at h
 | r::m,p::P,i+1,x,h=>by
  rw[List.set_cons_succ,JR,JR,jE m P i x (by simpa using h)]
theorem Ks (c:Nat) (t:List Rat) : ∀ (m:List (List Rat)) (P:List Nat),m[P.length]? = some t->JR m (P++[c])=JR m P*t.getD c 0
 | [],_,h=>by simp at h
 | r::m,[],h=>by
  obtain rfl:r=t:=by simpa using h
  rw[List.nil_append,JR,aD,aD,Rat.mul_one,Rat.one_mul]
 | r::m,p::P,h=>by
  rw[List.cons_append,JR,JR,Ks c t m P (by simpa using h),Rat.mul_assoc]
theorem Kr : ∀ (m:List (List Rat)) (P:List Nat),(∀ (i p:Nat) (r:List Rat),P[i]? = some p->m[i]? = some r->r.getD p 0≠0)->JR m P≠0
 | [],_,_=>by simp only[JR];decide
 | _::_,[],_=>by rw[aD];decide
 | r::m,p::P,h=>by
  intro e;rw[JR]at e;rcases Rat.mul_eq_zero.1 e with e|e
  ·exact h 0 p r rfl rfl e
  ·exact Kr m P (λ i q s h1 h2=>h (i+1) q s (by simpa using h1) (by simpa using h2)) e
structure kR (n W:Nat) (u:Rat) (D:List (List Rat)->Rat):Prop where
 sw : ∀ (m:List (List Rat)) (i k:Nat) (a b:List Rat),m.length=n->(∀ r∈m,r.length=W)->m[i]? = some a->m[k]? = some b->i≠k->D ((m.set i b).set k a) = -D m
 ad : ∀ (m:List (List Rat)) (i k:Nat) (r t:List Rat) (p f l:Rat),m.length=n->(∀ r∈m,r.length=W)->m[i]? = some r->m[k]? = some t->i≠k->l≠0->D (m.set i (comb p f l r t))=D m*(p/l)
 sc : ∀ (m:List (List Rat)) (i:Nat) (r:List Rat) (s:Rat),m.length=n->(∀ r∈m,r.length=W)->m[i]? = some r->D (m.set i (r.map (· * s)))=D m*s
 tr : ∀ m:List (List Rat),m.length=n->(∀ r∈m,r.length=W)->ZK (UU m) n->D m=JR m (List.range n)*u
def aM (b:Bool):Rat:=bif b then -1 else 1
theorem Ak7 (b:Bool):aM (!b) = -aM b:=by cases b<;>decide
theorem Lk : ∀ n:Nat,(1:Rat)^n=1
 | 0=>Rat.pow_zero 1
 | n+1=>by rw[Rat.pow_succ,Lk n,Rat.mul_one]
theorem Kv {l:Rat} (h:l≠0) : ∀ n:Nat,l^n≠0
 | 0=>by rw[Rat.pow_zero];decide
 | n+1=>by
  rw[Rat.pow_succ];intro e;rcases Rat.mul_eq_zero.1 e with e|e
  ·exact Kv h n e
  ·exact h e
theorem Jk {a b c:Rat} (h:c≠0) (e:a*c=b*c):a=b:=by
 have h1:=Rat.mul_inv_cancel c h;have:a*c*c⁻¹=b*c*c⁻¹:=by rw[e]
 rwa [Rat.mul_assoc,Rat.mul_assoc,h1,Rat.mul_one,Rat.mul_one]at this
structure HQ (m0:List (List Rat)) (K W t8:Nat) (m:List (List Rat)) (P:List Nat) (c:Nat) (odd:Bool) (l:Rat):Prop where
 ech:GP m W c P
 len:m.length=m0.length
 cc:c<=t8
 l0:l≠0
 ker : ∀ X,HX m X↔HX m0 X
 ms:Ms (6^P.length*K) m
 bl:Bt (6^P.length*K) l
 dt : ∀ (u:Rat) (D:List (List Rat)->Rat),kR m0.length W u D->D m*l=aM odd*D m0*JR m P*l^(m0.length-P.length)
theorem HQ.start {m0:List (List Rat)} {K W t8:Nat} (h : ∀ r∈m0,r.length=W) (hb:Ms K m0):HQ m0 K W t8 m0 [] 0 false 1 :=
 ⟨GP.start h,rfl,Nat.zero_le _,by decide,λ_=>Iff.rfl,by simpa using hb,Bt.one _,λ u D _=>by rw[aD,Lk,Rat.mul_one,Rat.mul_one,Rat.mul_one];exact (Rat.one_mul _).symm⟩
section
variable {m0 m:List (List Rat)} {K W t8 c:Nat} {P:List Nat} {odd:Bool} {l:Rat}
theorem HQ.skip (h:HQ m0 K W t8 m P c odd l) (hc:c<t8) (hz : ∀ (i:Nat) (r:List Rat),P.length<=i->m[i]? = some r->r.getD c 0=0):HQ m0 K W t8 m P (c+1) odd l :=
 ⟨h.ech.skip hz,h.len,hc,h.l0,h.ker,h.ms,h.bl,h.dt⟩
theorem HQ.swap {i k:Nat} {a b:List Rat} (h:HQ m0 K W t8 m P c odd l) (hi:m[i]? = some a) (hk:m[k]? = some b) (h1:P.length<=i) (h2:P.length<=k) (hn:i≠k):HQ m0 K W t8 ((m.set i b).set k a) P c (!odd) l :=
 ⟨h.ech.swap hi hk h1 h2,by simpa using h.len,h.cc,h.l0,λ X=>(AjU hi hk X).trans (h.ker X),λ r hr=>by
  rcases UE hr with rfl|⟨j,_,hj⟩
  ·exact h.ms.at hi
  ·rcases UE (zM hj) with rfl|⟨q,_,hq⟩
   ·exact h.ms.at hk
   ·exact h.ms.at hq,h.bl,λ u D hD=>by
  rw[hD.sw m i k a b h.len h.ech.lr hi hk hn,Ak7,jE _ _ _ _ h2,jE _ _ _ _ h1,Rat.neg_mul,h.dt u D hD,Rat.neg_mul,Rat.neg_mul,Rat.neg_mul]⟩
structure L5 (m0:List (List Rat)) (K W t8:Nat) (P:List Nat) (c:Nat) (odd:Bool) (l:Rat) (t:List Rat) (m:List (List Rat)) (i:Nat):Prop where
 ech:GP m W c P
 len:m.length=m0.length
 cc:c<t8
 l0:l≠0
 ker : ∀ X,HX m X↔HX m0 X
 ht:m[P.length]? = some t
 nt:t.getD c 0≠0
 lo : ∀ q r,q<i->m[q]? = some r->Bs (5*(6^P.length*K)+1) r
 hi : ∀ q r,i<=q->m[q]? = some r->Bs (6^P.length*K) r
 bt:Bs (6^P.length*K) t
 bl:Bt (6^P.length*K) l
 z : ∀ q r,P.length<q->q<i->m[q]? = some r->r.getD c 0=0
 dt : ∀ (u:Rat) (D:List (List Rat)->Rat),kR m0.length W u D->D m*l*l^(i-P.length-1)=aM odd*D m0*JR m P*l^(m0.length-P.length)*t.getD c 0^(i-P.length-1)
theorem HQ.swp {t:List Rat} (h:HQ m0 K W t8 m P c odd l) (hc:c<t8) (ht:m[P.length]? = some t) (hn:t.getD c 0≠0):L5 m0 K W t8 P c odd l t m (P.length+1) :=
 ⟨h.ech,h.len,hc,h.l0,h.ker,ht,hn,λ q r _ hr=>(h.ms.at hr).le (by omega),λ q r _ hr=>h.ms.at hr,h.ms.at ht,h.bl,λ q r h1 h2 _=>absurd h1 (by omega),λ u D hD=>by
  rw[show P.length+1-P.length-1=0 by omega,Rat.pow_zero,Rat.pow_zero,Rat.mul_one,Rat.mul_one];exact h.dt u D hD⟩
theorem L5.step {t r:List Rat} {i:Nat} (h:L5 m0 K W t8 P c odd l t m i) (hi:P.length<i) (hr:m[i]? = some r):L5 m0 K W t8 P c odd l t (m.set i (comb (t.getD c 0) (r.getD c 0) l r t)) (i+1):=by
 have hil:=(zS hr).1;have hl:r.length=t.length:=by rw[h.ech.lr r (zM hr),h.ech.lr t (zM h.ht)]
 have hg : ∀ j,(comb (t.getD c 0) (r.getD c 0) l r t).getD j 0=(r.getD j 0*t.getD c 0-t.getD j 0*r.getD c 0)/l:=lV hl;have hat : ∀ (q:Nat) (x:List Rat),(m.set i (comb (t.getD c 0) (r.getD c 0) l r t))[q]? = some x->(q=i/\x=comb (t.getD c 0) (r.getD c 0) l r t)\/(q≠i/\m[q]? = some x):=λ q x hx=>by
  rw[List.getElem?_set]at hx;by_cases e:i=q
  ·rw[if_pos e,if_pos hil]at hx
   exact Or.inl ⟨e.symm,(Option.some.inj hx).symm⟩
  ·rw[if_neg e]at hx
   exact Or.inr ⟨Ne.symm e,hx⟩
 have uj:=h.hi i r (Nat.le_refl i) hr;have htc:Bt (6^P.length*K) (t.getD c 0):=by
  have:Ms (6^P.length*K) [t]:=λ x hx=>by obtain rfl:=List.mem_singleton.1 hx;exact h.bt
  exact this.getD 0 c
 have tf:Bt (6^P.length*K) (r.getD c 0):=by
  have:Ms (6^P.length*K) [r]:=λ x hx=>by obtain rfl:=List.mem_singleton.1 hx;exact uj
  exact this.getD 0 c
 have w4 : ∀ j,j<=c->(comb (t.getD c 0) (r.getD c 0) l r t).getD j 0=0:=λ j hj=>by
  rw[hg];by_cases e:j=c
  ·subst e;rw[Rat.div_def];grind
  ·rw[h.ech.zr i r (by omega) hr j (by omega),h.ech.zr P.length t (Nat.le_refl _) h.ht j (by omega),Rat.div_def];grind
 refine ⟨⟨λ x hx => ?_,by simpa using h.ech.pl,h.ech.inc,h.ech.pb,λ q p x hp hx => ?_,λ q x hq hx j hj => ?_⟩,by simpa using h.len,h.cc,h.l0,λ X=>(AjV hr h.ht (by omega) hl h.nt h.l0 X).trans (h.ker X),?_,h.nt,λ q x hq hx => ?_,λ q x hq hx => ?_,h.bt,h.bl,λ q x h1 h2 hx => ?_,λ u D hD => ?_⟩
 ·rcases UE hx with rfl|⟨j,_,hj⟩
  ·rw[vJ hl];exact h.ech.lr r (zM hr)
  ·exact h.ech.lr x (zM hj)
 ·have hql:=(zS hp).1
  rcases hat q x hx with ⟨rfl,_⟩|⟨_,hx⟩
  ·omega
  ·exact h.ech.nz q p x hp hx
 ·rcases hat q x hx with ⟨rfl,rfl⟩|⟨_,hx⟩
  ·exact w4 j (by omega)
  ·exact h.ech.zr q x hq hx j hj
 ·rw[List.getElem?_set,if_neg (by omega)];exact h.ht
 ·rcases hat q x hx with ⟨rfl,rfl⟩|⟨hne,hx⟩
  ·exact uj.comb h.bt htc tf h.bl
  ·exact h.lo q x (by omega) hx
 ·rcases hat q x hx with ⟨rfl,rfl⟩|⟨hne,hx⟩
  ·omega
  ·exact h.hi q x (by omega) hx
 ·rcases hat q x hx with ⟨rfl,rfl⟩|⟨hne,hx⟩
  ·exact w4 c (Nat.le_refl c)
  ·exact h.z q x h1 (by omega) hx
 ·have hd:=h.dt u D hD
  have hdl:=Rat.div_mul_cancel h.l0 (a:=t.getD c 0);rw[hD.ad m i P.length r t _ _ l h.len h.ech.lr hr h.ht (by omega) h.l0,jE _ _ _ _ (by omega),show i+1-P.length-1=(i-P.length-1)+1 by omega,Rat.pow_succ,Rat.pow_succ];rw[show D m*(t.getD c 0/l)*l*(l^(i-P.length-1)*l)=D m*l*l^(i-P.length-1)*(t.getD c 0/l*l) by grind,hd,hdl,Rat.mul_assoc]
theorem Ku (hK:1<=K) (p:Nat):5*(6^p*K)+1<=6^(p+1)*K:=by
 have h1:1<=6^p*K:=Nat.mul_pos (Nat.pow_pos (by omega)) hK;have e:6^(p+1)*K=6*(6^p*K):=by rw[Nat.pow_succ,Nat.mul_comm (6^p) 6,Nat.mul_assoc]
 omega
theorem pI {p n B:Nat} (h:6^n*K<=B) (hp:p<=n):6^p*K<=B :=
 Nat.le_trans (Nat.mul_le_mul_right K (Nat.pow_le_pow_right (by omega) hp)) h
theorem L5.done {t:List Rat} {i:Nat} (hK:1<=K) (h:L5 m0 K W t8 P c odd l t m i) (hi:i=m.length):HQ m0 K W t8 m (P++[c]) (c+1) odd (t.getD c 0):=by
 have e:(P++[c]).length=P.length+1:=by simp
 have h6:=Ku hK P.length;refine ⟨h.ech.xb h.ht h.nt λ q r hq hr=>h.z q r hq (hi ▸ (zS hr).1) hr,h.len,h.cc,h.nt,h.ker,?_,?_,λ u D hD => ?_⟩
 ·rw[e]
  intro r hr;obtain ⟨q,hq⟩:=List.getElem?_of_mem hr;exact (h.lo q r (hi ▸ (zS hq).1) hq).le h6
 ·rw[e]
  have:Ms (6^P.length*K) [t]:=λ x hx=>by obtain rfl:=List.mem_singleton.1 hx;exact h.bt
  exact (this.getD 0 c).le (by omega)
 ·have hd:=h.dt u D hD
  have mi:=(zS h.ht).1;have hlen:=h.len;rw[Ks c t m P h.ht,e];rw[hi,hlen,show m0.length-P.length=(m0.length-P.length-1)+1 by omega,Rat.pow_succ,Nat.add_sub_cancel]at hd;rw[show m0.length-(P.length+1)=m0.length-P.length-1 by omega];have hp:=Kv h.l0 (m0.length-P.length-1);generalize l^(m0.length-P.length-1)=x at *;generalize t.getD c 0=p at *;generalize p^(m0.length-P.length-1)=y at *;have h0:=h.l0;have h1:D m=aM odd*D m0*JR m P*y:=Jk (c:=l*x) (λ e=>by
   rcases Rat.mul_eq_zero.1 e with e|e
   ·exact h0 e
   ·exact hp e) (by grind)
  rw[h1];grind
theorem HQ.pt {n:Nat} {u:Rat} {D:List (List Rat)->Rat} (h:HQ m0 K n n m P c odd l) (hml:m0.length=n) (hP:P.length=n) (hD:kR n n u D):u*l=aM odd*D m0:=by
 subst hml;have hc:c=m0.length:=by have:=h.ech.le;have:=h.cc;omega
 have hd:=h.dt u D hD;have hlen:=h.len;subst hc;have hPr:P=List.range m0.length:=by
  refine List.ext_getElem? λ i => ?_
  by_cases hi:i<m0.length
  ·obtain ⟨q,hq⟩ : ∃ q,P[i]? = some q:=⟨_,zE (by omega)⟩
   rw[hq,List.getElem?_range hi,h.ech.diag hP i q hq]
  ·rw[List.getElem?_eq_none (by omega),List.getElem?_eq_none (by simp;omega)]
 have hnz:JR m P≠0:=Kr m P λ i p r h1 h2=>(h.ech.nz i p r h1 h2).1
 have ht:=hD.tr m hlen h.ech.lr (h.ech.tri λ i hi=>by rw[hPr,List.getElem?_range hi]);rw[hP,Nat.sub_self,Rat.pow_zero,Rat.mul_one,ht,<-hPr]at hd;exact Jk hnz (by grind)
end
def HK (c:Nat) (l:Rat):List (List Rat)->Nat->List Rat
 | [],_=>[]
 | r::m,i=>(r.getD c 0*l-CI (r.drop (i+1)) (HK c l m (i+1)))/r.getD i 0::HK c l m (i+1)
theorem UW (c:Nat) (l:Rat) : ∀ (m:List (List Rat)) (i:Nat),(HK c l m i).length=m.length
 | [],_=>rfl
 | r::m,i=>by rw[HK,List.length_cons,UW c l m (i+1),List.length_cons]
theorem Yg (r:List Rat) (i:Nat) (h:i<r.length):r.drop i=r.getD i 0::r.drop (i+1):=by
 rw[List.drop_eq_getElem_cons h,List.getD_eq_getElem?_getD,zE h];rfl
theorem uB (c:Nat) (l:Rat) : ∀ (m:List (List Rat)) (i k:Nat) (r:List Rat),m[k]? = some r->i+k<r.length->r.getD (i+k) 0≠0->CI (r.drop (i+k)) ((HK c l m i).drop k)=r.getD c 0*l
 | q::m,i,0,r,h,hl,h0=>by
  obtain rfl:q=r:=by simpa using h
  rw[Nat.add_zero]at hl h0 ⊢;rw[Yg q i hl,HK,List.drop_zero,CI];have:=Rat.div_mul_cancel h0 (a:=q.getD c 0*l-CI (q.drop (i+1)) (HK c l m (i+1)));grind
 | q::m,i,k+1,r,h,hl,h0=>by
  rw[HK,List.drop_succ_cons,show i+(k+1)=i+1+k by omega];exact uB c l m (i+1) k r (by simpa using h) (by omega) (by rw[show i+1+k=i+(k+1) by omega];exact h0)
 | [],_,_,_,h,_,_=>by simp at h
theorem wT : ∀ (i:Nat) (r x:List Rat),(∀ j,j<i->r.getD j 0=0)->CI r x=CI (r.drop i) (x.drop i)
 | 0,_,_,_=>rfl
 | i+1,[],x,_=>by simp [CI]
 | i+1,r::rs,[],_=>by rw[WB,List.drop_nil,WB]
 | i+1,r::rs,x::xs,h=>by
  have h0:r=0:=by simpa using h 0 (by omega)
  rw[CI,h0,Rat.zero_mul,Rat.zero_add,List.drop_succ_cons,List.drop_succ_cons];exact wT i rs xs λ j hj=>by simpa using h (j+1) (by omega)
theorem Xx {c n:Nat} {l:Rat} {m:List (List Rat)} (hn : ∀ r∈m,n<=r.length) (hm:m.length=n) (ht:ZK (UU m) n) (r:List Rat) (hr:r∈m):CI r (HK c l m 0)=r.getD c 0*l:=by
 obtain ⟨k,hk⟩:=List.getElem?_of_mem hr;have hkl:=(zS hk).1;have h1:=ht k (by omega);have h2:=uB c l m 0 k r hk (by have:=hn r hr;omega) (by rw[Nat.zero_add,<-V4 hk];exact h1.1);rw[wT k r _ λ j hj=>by rw[<-V4 hk];exact h1.2 j hj,<-h2,Nat.zero_add]
def HR (S n:Nat):Nat->Nat
 | 0=>0
 | t+1=>3*S+n*(S+HR S n t+1)
theorem lP (S n:Nat) : ∀ t,HR S n t<=HR S n (t+1)
 | 0=>Nat.zero_le _
 | t+1=>by
  rw[HR,HR];have:=Nat.mul_le_mul_left n (show S+HR S n t+1<=S+HR S n (t+1)+1 by have:=lP S n t;omega);omega
theorem uK (S n:Nat) {t u:Nat} (h:t<=u):HR S n t<=HR S n u:=by
 obtain ⟨d,rfl⟩:=Nat.exists_eq_add_of_le h;induction d with
 | zero=>exact Nat.le_refl _
 | succ d ih=>exact Nat.le_trans (ih (by omega)) (lP S n (t+d))
theorem wY {k l:Nat} {a b:List Rat} (ha:Bs k a) (hb:Bs l b) {n:Nat} (hn:b.length<=n):Bt (n*(k+l+1)) (CI a b):=by
 rw[JA];exact (hb.dot ha).le (Nat.le_trans (Nat.mul_le_mul_right _ hn) (Nat.le_of_eq (by rw[Nat.add_comm l k])))
theorem fX {S n c:Nat} {l:Rat} (hl:Bt S l) : ∀ (m:List (List Rat)) (i:Nat),m.length<=n->Ms S m->Bs (HR S n m.length) (HK c l m i)
 | [],_,_,_=>λ x hx=>by cases hx
 | r::m,i,hn,hm=>by
  have ih:=fX (c:=c) (n:=n) hl m (i+1) (by rw[List.length_cons]at hn;omega) (λ q hq=>hm q (List.mem_cons_of_mem _ hq));have hr:Bs S r:=hm r List.mem_cons_self;have hg : ∀ j,Bt S (r.getD j 0):=λ j=>by
   have:Ms S [r]:=λ x hx=>by obtain rfl:=List.mem_singleton.1 hx;exact hr
   exact this.getD 0 j
  have h1:=wY (k:=S) (a:=r.drop (i+1)) (λ x hx=>hr x (List.mem_of_mem_drop hx)) ih (n:=n-1) (by rw[UW];rw[List.length_cons]at hn;omega);have h2:=(((hg c).mul hl).subL h1).divL (hg i);rw[List.length_cons];intro x hx;rw[HK]at hx;rcases List.mem_cons.1 hx with rfl|hx
  ·refine h2.le ?_
   rw[HR];obtain ⟨k,rfl⟩ : ∃ k,n=k+1:=⟨n-1,by rw[List.length_cons]at hn;omega⟩;have e:=Nat.succ_mul k (S+HR S (k+1) m.length+1);rw[Nat.succ_eq_add_one]at e;rw[Nat.add_sub_cancel];omega
  ·exact (ih x hx).le (lP S n m.length)
end Go.Eng

namespace Go.Eng
open F
attribute [local irreducible] AH BJ B1 BD EZ CF CG CR CU DW B5 DT EG F7 DM CQ DR EE AR CW BW pw DC C9 EI ET E1 E7 EW D4 E8
variable {L:Lib}
set_option maxHeartbeats 16000000
def cw (n:Nat) (v:List Rat):List (Option Rat):=List.replicate (n-v.length) none++v.map some
theorem vU {n:Nat} {v:List Rat} (h:v.length<=n):(cw n v).length=n:=by simp [cw];omega
theorem Xe (n:Nat):cw n []=List.replicate n none:=by simp [cw]
theorem Xc {n s:Nat} {v:List Rat} {x:Rat} (h:v[s]? = some x):(cw n v)[n-v.length+s]? = some (some x):=by
 rw[cw,List.getElem?_append_right (by simp),List.length_replicate,Nat.add_sub_cancel_left,List.getElem?_map,h];rfl
theorem Vt {n:Nat} {v:List Rat} {x:Rat} (h:v.length<n):(cw n v).set (n-(v.length+1)) (some x)=cw n (x::v):=by
 obtain ⟨k,hk⟩ : ∃ k,n-v.length=k+1:=⟨n-v.length-1,by omega⟩;have e:n-(v.length+1)=k:=by omega
 simp only[cw,hk,List.length_cons,e];rw[List.replicate_succ',List.append_assoc,List.set_append_right _ _ (by simp),List.length_replicate,Nat.sub_self];rfl
theorem Xd {n:Nat} {v:List Rat} (h:v.length=n):(cw n v).map eO=v.map eQ:=by
 simp [cw,h,Function.comp_def]
theorem O2 {l:List Rat} {i:Nat} (h:i<l.length):l[i]? = some (l.getD i 0):=by
 rw[List.getD_eq_getElem?_getD,zE h];rfl
theorem AhF (N:MatGLib L) (q q':Bool) (m:List (List Rat)) (n W c S:Nat) (l:Rat) (hm:m.length=n) (hW : ∀ r∈m,r.length=W) (hn:1<=n/\n<=1000) (hnW:n<=W) (hc:c<W) (hW2:W<=100000)
  (hd : ∀ (k:Nat) (r:List Rat),m[k]? = some r->r.getD k 0≠0) (hms:Ms S m) (hl:Bt S l) (hB:HR S n n<2199023255552):Ev L 234 [.sl q (FE q' m),.int .i64 c,.agg (eQ l)] (.sl false ((HK c l m 0).map eQ)):=by
 have hS:S<2199023255552:=by
  have:=uK S n (show 1<=n by omega)
  rw[HR]at this;omega
 refine Ev.x N.PI rfl rfl ?_;(repeat' ((first|apply CB|apply BA)<;>conv=>whnf));refine GU (enc:=eO) none n rfl (by omega) (by omega) ?_;(conv=>whnf);(repeat' ((first|(apply D5;omega)|apply CB)<;>conv=>whnf));rw[hm];refine DG (λ k=>k) (λ(k:Nat)=>k<=n) (λ k=>[(8,.int .i64 ((k:Int)-1))]) (λ k=>[(13,13,.rw 3 ((cw n (HK c l (m.drop k) k)).map eO))]) [] [] n (by first|exact (by (conv=>whnf);exact ⟨rfl,rfl,rfl⟩)|(rw[List.drop_of_length_le (by omega),HK,Xe];exact (by (conv=>whnf);exact ⟨rfl,rfl,rfl⟩))) (by omega) ?_;intro k p1 kh;rcases k with _|k
 ·clear kh
  rw[List.drop_zero,Xd (by rw[UW];exact hm)];(repeat' ((first|(apply BR<;>intro hc<;>try (exfalso;omega))|apply BA)<;>conv=>whnf));refine GK (enc:=eQ) (λ_=>rfl) rfl (by rw[UW];omega) ?_;(conv=>whnf);exact CK rfl (by simp only[CT,true_and];exact KP _)
 ·obtain ⟨r,hr⟩ : ∃ r,m[k]? = some r:=⟨_,zE (by omega)⟩
  have hr':m[(k:Int).toNat]? = some r:=hr;have hrl:=hW r (zM hr);have e1:((k+1:Nat):Int)-1=k:=by omega
  have hv:HK c l (m.drop k) k=(r.getD c 0*l-CI (r.drop (k+1)) (HK c l (m.drop (k+1)) (k+1)))/r.getD k 0::HK c l (m.drop (k+1)) (k+1):=by
   obtain ⟨h1,h2⟩:=zS hr;rw[List.drop_eq_getElem_cons h1,HK,h2]
  have hvl:(HK c l (m.drop (k+1)) (k+1)).length=n-(k+1):=by rw[UW,List.length_drop,hm]
  have Qt:Bs (HR S n (n-(k+1))) (HK c l (m.drop (k+1)) (k+1)):=by
   have:=fX (c:=c) (n:=n) hl (m.drop (k+1)) (k+1) (by rw[List.length_drop];omega) (λ r hr=>hms r (List.mem_of_mem_drop hr))
   rwa [List.length_drop,hm]at this
  have hB2:HR S n (n-(k+1)+1)<=HR S n n:=uK S n (by omega);rw[HR]at hB2;have hrb:=hms.at hr;have tf:r[(c:Int).toNat]? = some (r.getD c 0):=O2 (by omega);have hrk:r[(k:Int).toNat]? = some (r.getD k 0):=O2 (by omega);have Gx:=hd k r hr;have bc:=hrb.at tf;have bk:=hrb.at hrk;have hM:=K8 N.toRatGLib bc hl hS hS;generalize hrcv:r.getD c 0=rc at *;generalize AsQ:r.getD k 0=rk at *;generalize HK c l (m.drop (k+1)) (k+1)=v at *;generalize HR S n (n-(k+1))=X at *;rw[e1];(repeat' ((first|(apply BR<;>intro hc<;>try (exfalso;omega))|(apply CJ;omega)|(refine CY (by assumption) ?_ rfl ?_;omega)|apply BA|refine BH (hM) ?_)<;>conv=>whnf));refine I4 (λ s _=>n-s) (λ(s:Nat) (acc:Rat)=>k+1+s<=n/\acc=rc*l-CI ((r.drop (k+1)).take s) (v.take s)) (λ s _=>[(10,.int .i64 ((k+1+s:Nat):Int))]) (λ_ acc=>[(9,9,.bx (eQ acc))]) [] [] 0 (rc*l) (by (conv=>whnf);exact ⟨rfl,rfl,rfl⟩) ⟨by omega,by simp only[List.take_zero,CI];grind⟩ ?_;intro s acc ⟨p2,p3⟩ sh;have hab:Bt (2*S+(n-(k+1))*(S+X+1)+1) acc:=by
   rw[p3];have h1:=wY (k:=S) (l:=X) (a:=(r.drop (k+1)).take s) (b:=v.take s) (n:=n-(k+1)) (λ x hx=>hrb x (List.mem_of_mem_drop (List.mem_of_mem_take hx))) (Qt.take s) (by rw[List.length_take];omega);exact ((bc.mul hl).subL h1).le (by omega)
  have hmul:=Nat.mul_le_mul_right (S+X+1) (show n-(k+1)+1<=n by omega);rw[Nat.add_mul,Nat.one_mul]at hmul;have hX:X<2199023255552:=by
   have:=Nat.le_mul_of_pos_left (S+X+1) (show 0<n by omega)
   omega
  by_cases hs:k+1+s<n
  ·obtain ⟨x,hx⟩ : ∃ x,v[s]? = some x:=⟨_,zE (by omega)⟩
   obtain ⟨y,hy⟩ : ∃ y,r[k+1+s]? = some y:=⟨_,zE (by omega)⟩;have hy':r[((k+1+s:Nat):Int).toNat]? = some y:=hy;have tk:(r.drop (k+1))[s]? = some y:=by rw[List.getElem?_drop];exact hy
   have hca:=Xc (n:=n) hx;rw[hvl,show n-(n-(k+1))+s=k+1+s by omega]at hca;have hcl:=vU (n:=n) (v:=v) (by omega);have by':=hrb.at hy
   have bx:=Qt.at hx;have hM2:=K8 N.toRatGLib by' bx hS hX
   have hSu:=nO N.toRatHLib hab (by'.mul bx) (by omega) (by
    have:=Nat.le_mul_of_pos_left (S+X+1) (show 0<n-(k+1) by omega)
    omega)
   have hdt:=cE tk hx;generalize cw n v=C at *;(repeat' ((first|(apply BR<;>intro hc<;>try (exfalso;omega))|(apply CE;omega)|apply CB|(refine CY (by assumption) ?_ rfl ?_;omega)|apply BA)<;>conv=>whnf));refine W8 (enc:=eO) (e:=some x) (by rw[Nat.zero_add];exact hca) rfl ?_;(conv=>whnf);(repeat' ((first|(apply CJ;omega)|refine BH (hM2) ?_|refine BH (hSu) ?_)<;>conv=>whnf));refine DE [] (by (conv=>whnf);exact ⟨rfl,rfl,rfl⟩) (sh (s+1) (acc-y*x) (by omega) ⟨by omega,?_⟩);rw[hdt,p3];grind
  ·obtain rfl:s=n-(k+1):=by omega
   clear sh;have hdt:acc=rc*l-CI (r.drop (k+1)) v:=by
    rw[p3,JA,XQ hvl,JA]
   have hD:=gZ N.toRatGLib hab bk (by omega) hS Gx;have hcs:=Vt (n:=n) (v:=v) (x:=acc/rk) (by omega);rw[hvl,show n-(n-(k+1)+1)=k by omega]at hcs;have hcl:=vU (n:=n) (v:=v) (by omega);rw[<-hdt]at hv;rw[<-hv]at hcs;generalize cw n v=C at *;(repeat' ((first|(apply BR<;>intro hc<;>try (exfalso;omega))|(apply CE;omega)|apply CB|(refine CY (by assumption) ?_ rfl ?_;omega)|apply BA|refine BH (hD) ?_)<;>conv=>whnf));refine G8 (enc:=eO) (some (acc/rk)) rfl (λ e=>by cases e<;>rfl) (by omega) ?_;(conv=>whnf);rw[hcs];(repeat' ((first|(apply D5;omega)|fail)<;>conv=>whnf));exact C7 [] (kh k (by omega) (by omega))
end Go.Eng

namespace Go.Eng
variable {L:Lib}
def OJ:C4->Bool
 | .ret=>false
 | .dr c _ _=>OJ c
 | .scope c=>OJ c
 | .seq a b=>OJ a&&OJ b
 | .cond _ a b=>OJ a&&OJ b
 | .block _ c=>OJ c
 | .loop c=>OJ c
 | _=>true
def OK:It->Bool
 | .code c=>OJ c
 | .lp c=>OJ c
 | _=>true
theorem cT {id:Nat} {kk:List It} : ∀ {l l':List It},GM id l=some l'->GM id (l++kk)=some (l'++kk)
 | [],_,h=>by cases h
 | .blk i::l,l',h=>by
  simp only[List.cons_append,GM]at h ⊢;split at h
  ·rename_i e;rw[if_pos e];cases h;rfl
  ·rename_i e;rw[if_neg e];exact cT h
 | .code c::l,l',h=>by
  simp only[List.cons_append,GM]at h ⊢;exact cT h
 | .du a b::l,l',h=>by
  simp only[List.cons_append,GM]at h ⊢;exact cT h
 | .lp c::l,l',h=>by
  simp only[List.cons_append,GM]at h ⊢;exact cT h
theorem cS {id:Nat} {p:It->Bool} : ∀ {l l':List It},GM id l=some l'->l.all p=true->l'.all p=true
 | [],_,h,_=>by cases h
 | .blk i::l,l',h,ha=>by
  simp only[GM]at h;simp only[List.all_cons,Bool.and_eq_true]at ha;split at h
  ·cases h;exact ha.2
  ·exact cS h ha.2
 | .code c::l,l',h,ha=>by
  simp only[GM]at h;simp only[List.all_cons,Bool.and_eq_true]at ha;exact cS h ha.2
 | .du a b::l,l',h,ha=>by
  simp only[GM]at h;simp only[List.all_cons,Bool.and_eq_true]at ha;exact cS h ha.2
 | .lp c::l,l',h,ha=>by
  simp only[GM]at h;simp only[List.all_cons,Bool.and_eq_true]at ha;exact cS h ha.2
theorem ML {C:Cl} {kk:List It} {m:Nat} {CZ DQ:St} (hk:run C m kk CZ=some DQ) : ∀ (n:Nat) (l:List It) (st:St),l.all OK=true->run C n l st=some CZ->run C (n+m) (l++kk) st=some DQ
 | 0,_,_,_,h=>by cases h
 | n+1,[],st,_,h=>by
  simp only[run,Option.some.injEq]at h;subst h;exact ON (C:=C) (C':=C) ⟨λ_ _ _ h=>h,λ_ _ _ _ h=>h,rfl⟩ (by omega) hk
 | n+1,.blk i::l,st,ha,h=>by
  simp only[List.all_cons,Bool.and_eq_true]at ha;rw[show n+1+m=n+m+1 by omega];simp only[List.cons_append,run]at h ⊢;exact ML hk n l st ha.2 h
 | n+1,.du ts ss::l,st,ha,h=>by
  simp only[List.all_cons,Bool.and_eq_true]at ha;rw[show n+1+m=n+m+1 by omega];simp only[List.cons_append,run]at h ⊢;exact ML hk n l _ ha.2 h
 | n+1,.lp c::l,st,ha,h=>by
  rw[show n+1+m=n+m+1 by omega];simp only[List.cons_append,run]at h ⊢;exact ML hk n (.code c :: .lp c::l) st (by simp only[List.all_cons,OK,Bool.and_eq_true]at ha ⊢;exact ⟨ha.1,ha.1,ha.2⟩) h
 | n+1,.code c::l,st,ha,h=>by
  simp only[List.all_cons,OK,Bool.and_eq_true]at ha;obtain ⟨h1,h2⟩:=ha;rw[show n+1+m=n+m+1 by omega];cases c with
  | ret=>cases h1
  | skip =>
   simp only[List.cons_append,run]at h ⊢;exact ML hk n l st h2 h
  | ops o d =>
   simp only[List.cons_append,run]at h ⊢;cases hs:FS C o st with
   | none=>rw[hs]at h;cases h
   | some s'=>rw[hs]at h;exact ML hk n l s' h2 h
  | dr c ts ss =>
   simp only[List.cons_append,run]at h ⊢;exact ML hk n (.code c :: .du ts ss::l) st (by simp only[List.all_cons,OK,Bool.and_eq_true];exact ⟨h1,trivial,h2⟩) h
  | scope c =>
   simp only[List.cons_append,run]at h ⊢;exact ML hk n (.code c::l) st (by simp only[List.all_cons,OK,Bool.and_eq_true];exact ⟨h1,h2⟩) h
  | seq a b =>
   simp only[OJ,Bool.and_eq_true]at h1;simp only[List.cons_append,run]at h ⊢;exact ML hk n (.code a :: .code b::l) st (by simp only[List.all_cons,OK,Bool.and_eq_true];exact ⟨h1.1,h1.2,h2⟩) h
  | cond x a b =>
   simp only[OJ,Bool.and_eq_true]at h1;simp only[List.cons_append,run]at h ⊢;split at h
   ·exact ML hk n (.code a::l) st (by simp only[List.all_cons,OK,Bool.and_eq_true];exact ⟨h1.1,h2⟩) h
   ·exact ML hk n (.code b::l) st (by simp only[List.all_cons,OK,Bool.and_eq_true];exact ⟨h1.2,h2⟩) h
   ·cases h
  | block i c =>
   simp only[List.cons_append,run]at h ⊢;exact ML hk n (.code c :: .blk i::l) st (by simp only[List.all_cons,OK,Bool.and_eq_true];exact ⟨h1,trivial,h2⟩) h
  | loop c =>
   simp only[List.cons_append,run]at h ⊢;exact ML hk n (.code c :: .lp c::l) st (by simp only[List.all_cons,OK,Bool.and_eq_true];exact ⟨h1,h1,h2⟩) h
  | exit i =>
   simp only[List.cons_append,run]at h ⊢;cases he:GM i l with
   | none=>rw[he]at h;cases h
   | some l' =>
    rw[he]at h;rw[cT he];exact ML hk n l' st (cS he h2) h
theorem VV {l kk:List It} {tm:Tm} {M:Mem} {Q:Tm->Mem->Prop} (hn:l.all OK=true) (h:AH L l tm M (λ tm M=>AH L kk tm M Q)):AH L (l++kk) tm M Q:=by
 intro σ st hr;obtain ⟨n,c,CZ,h1,σ1,Ru,M1,v3,h2⟩:=h σ st hr;obtain ⟨m,c2,DQ,h3,h4⟩:=h2 σ1 CZ v3;obtain ⟨c3,g1,g2⟩ : ∃ c3,(FH L c).le (FH L c3)/\(FH L c2).le (FH L c3):=⟨max c c2,IL (Nat.le_max_left _ _),IL (Nat.le_max_right _ _)⟩;exact ⟨n+m,c3,DQ,ML (ON g2 (Nat.le_refl _) h3) n l st hn (ON g1 (Nat.le_refl _) h1),h4⟩
structure eP (p:Prop):Prop where
 go ::
 out:p
theorem Tj {α β γ:Type} {l kk:List It} {tm:Tm} {M:Mem} {Q:Tm->Mem->Prop} (P:α->β->γ->Prop) (vs:α->β->γ->Tm) (Ms:α->β->γ->Mem) (ts:List Nat) (hn:l.all OK=true)
  (hr : ∀ a b c,P a b c->AH L kk (vs a b c++o7 ts tm) (Ms a b c++M) Q)
  (h:(∀ a b c,P a b c->AH L kk (vs a b c++o7 ts tm) (Ms a b c++M) Q)->AH L l tm M (λ tm M=>eP (AH L kk tm M Q))):AH L (l++kk) tm M Q:=by
 refine VV hn ?_;intro σ st hs;obtain ⟨n,c,CZ,h1,σ1,Ru,M1,v3,h2⟩:=h hr σ st hs;exact ⟨n,c,CZ,h1,σ1,Ru,M1,v3,h2.out⟩
end Go.Eng

namespace Go.Eng
open F
attribute [local irreducible] AH BJ B1 BD EZ CF CG CR CU DW B5 DT EG F7 DM CQ DR EE AR CW BW pw DC C9 EI ET E1 E7 EW D4 E8
variable {L:Lib}
set_option maxHeartbeats 16000000
theorem wE:dg 1=[1]:=by rw[ME (by decide)];simp [HS]
theorem nC (N:d9 L) {s:Rat} {a l d:Nat} (q:Bool) (hs:Bt a s) (hd:d<=2^l) (ha:a<2199023255552) (hl:l<2199023255552):Ev L 99 [.agg (eQ s),.agg [.bool false,.sl false ((dg d).map BZ),.sl q [[.int .u32 1]]]] (.agg (eQ (s*((d:Nat):Rat)))):=by
 have gk:Bt l ((d:Nat):Rat):=⟨by simpa using hd,by simpa using Nat.one_le_two_pow⟩;have e:=IB ((d:Nat):Rat);have h1:=(gk.sm hl).1;have h2:=(gk.sm hl).2;rw[Rat.num_natCast,Rat.den_natCast,Int.natAbs_natCast,show decide ((d:Int)<0)=false by simp,wE]at e;rw[Rat.num_natCast,Int.natAbs_natCast]at h1;rw[Rat.den_natCast,wE]at h2;have h:=yT N 68719476736 (by omega) (decide (s.num<0)) false false false false q _ _ (dg d) [1] (hs.sm ha).1 (hs.sm ha).2 h1 h2;rw[IB,e]at h;exact h
theorem Ow {N i k:Nat} (hk:k<N) : ∀ t,t∈(List.range N).set i k->t<N:=λ t ht=>by
 rcases List.mem_or_eq_of_mem_set ht with h|h
 ·exact List.mem_range.1 h
 ·omega
theorem PR {z:Nat} {m:List (List Rat)} {i:Nat} {r:List Rat} (h:m[i]? = some r):(C1 z eQ m)[i]? = some (some (z,r.map eQ)):=by
 rw[C1,List.getElem?_map,h];rfl
theorem Ie {z:Nat} {m:List (List Rat)} {i j:Nat} {a b:List Rat}:((C1 z eQ m).set i (some (z,b.map eQ))).set j (some (z,a.map eQ))=C1 z eQ ((m.set i b).set j a):=by
 simp only[C1,List.map_set]
theorem ZD {R:List (Option (Nat × List (List AV)))} {e z:Nat} {es:List (List AV)} {K:Nat->List (List AV)->Prop} (h:R[e]? = some (some (z,es))) (hk:K z es):C9 R e K:=by
 unfold C9;exact ⟨z,es,h,hk⟩
theorem dV {α:Type} {l:List α} {i:Nat} {x:α} (h:l[i]? = some x):l.set i x=l:=by
 obtain ⟨h1,rfl⟩:=zS h;exact List.set_getElem_self h1
theorem Ake {a b:List Rat} {c:Nat} (hl:a.length=b.length) (h : ∀ j,j<c->a.getD j 0=0/\b.getD j 0=0):a.take c++b.drop c=b:=by
 have e:a.take c=b.take c:=by
  refine List.ext_getElem? λ j => ?_
  rw[List.getElem?_take,List.getElem?_take];by_cases hj:j<c
  ·rw[if_pos hj,if_pos hj]
   obtain ⟨h1,h2⟩:=h j hj;rw[List.getD_eq_getElem?_getD]at h1 h2;by_cases hl2:j<a.length
   ·rw[zE hl2,zE (by omega)]at *
    simp only[Option.getD_some]at h1 h2;rw[h1,h2]
   ·rw[List.getElem?_eq_none (by omega),List.getElem?_eq_none (by omega)]
  ·rw[if_neg hj,if_neg hj]
 rw[e,List.take_append_drop]
theorem Akc {a b:List Rat} {j:Nat} {x:Rat} (hl:a.length=b.length) (hx:b[j]? = some x):(a.take j++b.drop j)[j]? = some x:=by
 have h1:=(zS hx).1;have ht:(a.take j).length=j:=by rw[List.length_take];omega
 rw[List.getElem?_append_right (by omega),ht,Nat.sub_self,List.getElem?_drop];exact hx
theorem Akd {a b:List Rat} {j:Nat} {y:Rat} (hl:a.length=b.length) (hy:a[j]? = some y):(a.take j++b.drop j).set j y=a.take (j+1)++b.drop (j+1):=by
 have h1:=(zS hy).1;have ht:(a.take j).length=j:=by rw[List.length_take];omega
 rw[List.set_append_right _ _ (by omega),ht,Nat.sub_self,List.drop_eq_getElem_cons (by omega),List.set_cons_zero,LE hy,List.append_assoc];rfl
theorem xK {m0 m a b:List (List Rat)} {K n w c:Nat} {P:List Nat} {odd:Bool} {l:Rat} (hE:HQ m0 K (n+w) n m P c odd l) (hs:bI m0 (d5 a b)) (hl:a.length=b.length) (ha : ∀ r∈a,r.length=n) (hal:a.length=n) (hend:n<=c\/n<=P.length):P.length=n↔NS n a:=by
 have Fx:GP m (n+w) n P:=by
  have hc:=hE.cc;rcases hend with h|h
  ·obtain rfl:c=n:=by omega
   exact hE.ech
  ·have h1:=hE.ech.pl
   have h2:=hE.len;have h3:=hs.1;simp only[d5,List.length_zipWith]at h3;exact hE.ech.wide (by omega) hc
 exact AkI Fx (λ X=>(hE.ker X).trans (hs.ker X)) hl ha
end Go.Eng

namespace Go.Eng
theorem GP.pw {m:List (List Rat)} {W c:Nat} {P:List Nat} (h:GP m W c P):P.Pairwise (· < ·):=by
 rw[List.pairwise_iff_getElem];intro i j hi hj ju;exact h.inc i j _ _ ju (zE hi) (zE hj)
theorem L5.all {m0:List (List Rat)} {K W t8 c:Nat} {P:List Nat} {odd:Bool} {l:Rat} {t:List Rat} : ∀ (d i:Nat) (m:List (List Rat)),P.length<i->i+d=m0.length->L5 m0 K W t8 P c odd l t m i -> ∃ m',L5 m0 K W t8 P c odd l t m' m0.length
 | 0,i,m,_,hd,h=>by
  obtain rfl:i=m0.length:=by omega
  exact ⟨m,h⟩
 | d+1,i,m,hi,hd,h=>by
  obtain ⟨r,hr⟩ : ∃ r,m[i]? = some r:=⟨_,zE (by have:=h.len;omega)⟩;exact L5.all d (i+1) _ (by omega) (by omega) (h.step hi hr)
theorem HQ.all {m0:List (List Rat)} {K W:Nat} (hK:1<=K) : ∀ (d c:Nat) (m:List (List Rat)) (P:List Nat) (odd:Bool) (l:Rat),c+d=W->HQ m0 K W W m P c odd l -> ∃ m' P' rn l',HQ m0 K W W m' P' W rn l'
 | 0,c,m,P,odd,l,hd,h=>by
  obtain rfl:c=W:=by omega
  exact ⟨m,P,odd,l,h⟩
 | d+1,c,m,P,odd,l,hd,h=>by
  have Rb : ∀ (m:List (List Rat)) (odd:Bool) (t:List Rat),HQ m0 K W W m P c odd l->m[P.length]? = some t->t.getD c 0≠0 -> ∃ m' P' rn l',HQ m0 K W W m' P' W rn l':=by
   intro m odd t h ht hn;have mi:=(zS ht).1;have hlen:=h.len;obtain ⟨m',hs⟩:=L5.all (m0.length-(P.length+1)) (P.length+1) m (by omega) (by omega) (h.swp (by omega) ht hn);exact HQ.all hK d (c+1) _ _ _ _ (by omega) (hs.done hK hs.len.symm)
  by_cases hz : ∀ (i:Nat) (r:List Rat),P.length<=i->m[i]? = some r->r.getD c 0=0
  ·exact HQ.all hK d (c+1) m P odd l (by omega) (h.skip (by omega) hz)
  ·obtain ⟨i,r,hi,hr,hne⟩ : ∃ (i:Nat) (r:List Rat),P.length<=i/\m[i]? = some r/\r.getD c 0≠0:=Classical.byContradiction λ vf=>hz λ i r hi hr=>Classical.byContradiction λ hne=>vf ⟨i,r,hi,hr,hne⟩
   have hil:=(zS hr).1;by_cases e:i=P.length
   ·subst e
    exact Rb m odd r h hr hne
   ·obtain ⟨t,ht⟩ : ∃ t,m[P.length]? = some t:=⟨_,zE (by omega)⟩
    exact Rb _ (!odd) r (h.swap hr ht hi (Nat.le_refl _) e) (by rw[List.getElem?_set,if_pos rfl,if_pos (by rw[List.length_set];omega)]) hne
def KR:List Rat->Rat->Rat
 | [],_=>0
 | c::p,x=>c+x*KR p x
theorem xQ {p:List Rat} (h : ∀ z∈p,z=0) (x:Rat):KR p x=0:=by
 induction p with
 | nil=>rfl
 | cons c p ih=>rw[KR,ih λ z hz=>h z (List.mem_cons_of_mem _ hz),h c List.mem_cons_self];grind
structure Pt where
 x:Rat
 y:Rat
 w:Rat
def IZ (g:List Pt) (f:Pt->Rat):Rat:=g.foldl (λ s p=>s+f p) 0
theorem rJ (f:Pt->Rat) : ∀ (g:List Pt) (s:Rat),g.foldl (λ s p=>s+f p) s=s+IZ g f
 | [],s=>by simp only[IZ,List.foldl_nil];grind
 | p::g,s=>by
  have h1:=rJ f g (s+f p);have h2:=rJ f g (0+f p);simp only[IZ,List.foldl_cons]at h1 h2 ⊢;rw[h1,h2];grind
theorem VT (p:Pt) (g:List Pt) (f:Pt->Rat):IZ (p::g) f=f p+IZ g f:=by
 have:=rJ f g (0+f p)
 simp only[IZ,List.foldl_cons]at this ⊢;rw[this];grind
theorem kF {g:List Pt} {f h:Pt->Rat} (e : ∀ p∈g,f p=h p):IZ g f=IZ g h:=by
 induction g with
 | nil=>rfl
 | cons p g ih=>rw[VT,VT,e p List.mem_cons_self,ih λ q hq=>e q (List.mem_cons_of_mem _ hq)]
theorem Md (f h:Pt->Rat) : ∀ g:List Pt,IZ g (λ p=>f p+h p)=IZ g f+IZ g h
 | []=>by simp only[IZ,List.foldl_nil];grind
 | p::g=>by rw[VT,VT,VT,Md f h g];grind
theorem Me (r:Rat) (f:Pt->Rat) : ∀ g:List Pt,IZ g (λ p=>r*f p)=r*IZ g f
 | []=>by simp only[IZ,List.foldl_nil];grind
 | p::g=>by rw[VT,VT,Me r f g];grind
theorem Alx (g:List Pt):IZ g (λ_=>0)=0:=by
 induction g with
 | nil=>rfl
 | cons p g ih=>rw[VT,ih];grind
def rhs (g:List Pt) (k:Nat):Rat:=IZ g λ p=>p.w*p.x^k*p.y
def bE (g:List Pt) (n:Nat) (c:List Rat):Prop := ∀ k,k<n->IZ g (λ p=>p.w*p.x^k*(KR c p.x-p.y))=0
theorem Ls {g:List Pt} (e:Pt->Rat) : ∀ (q:List Rat) (i n:Nat),(∀ k,k<n->IZ g (λ p=>p.w*p.x^k*e p)=0)->i+q.length<=n->IZ g (λ p=>p.w*p.x^i*e p*KR q p.x)=0
 | [],i,n,_,_=>by
  rw[kF (h:=λ_=>0) λ p _=>by simp only[KR];grind,Alx]
 | z::q,i,n,h,hl=>by
  rw[List.length_cons]at hl;rw[kF (h:=λ p=>z*(p.w*p.x^i*e p)+p.w*p.x^(i+1)*e p*KR q p.x) λ p _=>by rw[KR,Rat.pow_succ];grind,Md,Me,h i (by omega),Ls e q (i+1) n h (by omega)];grind
theorem bE.all {g:List Pt} {n:Nat} {c q:List Rat} (h:bE g n c) (hq:q.length<=n):IZ g (λ p=>p.w*(KR c p.x-p.y)*KR q p.x)=0:=by
 have:=Ls (g:=g) (λ p=>KR c p.x-p.y) q 0 n h (by omega)
 rw[<-this];exact kF λ p _=>by rw[Rat.pow_zero];grind
structure sT (g:List Pt):Prop where
 ne:(g.map (·.x)).Pairwise (· ≠ ·)
 pos : ∀ p∈g,0<p.w
def Wh (k:Nat) (x:Rat):Prop := ∃ z:Int,x=(z:Rat)/\z.natAbs<=2^k
theorem Wh.le {k l:Nat} {x:Rat} (h:Wh k x) (hl:k<=l):Wh l x:=by
 obtain ⟨z,e,b⟩:=h;exact ⟨z,e,Nat.le_trans b (Nat.pow_le_pow_right (by omega) hl)⟩
theorem Wh.mul {k l:Nat} {x y:Rat} (hx:Wh k x) (hy:Wh l y):Wh (k+l) (x*y):=by
 obtain ⟨z,rfl,b⟩:=hx;obtain ⟨u,rfl,c⟩:=hy;exact ⟨z*u,by rw[Rat.intCast_mul],by rw[Int.natAbs_mul,Nat.pow_add];exact Nat.mul_le_mul b c⟩
theorem Wh.add {k:Nat} {x y:Rat} (hx:Wh k x) (hy:Wh k y):Wh (k+1) (x+y):=by
 obtain ⟨z,rfl,b⟩:=hx;obtain ⟨u,rfl,c⟩:=hy;refine ⟨z+u,by rw[Rat.intCast_add],?_⟩;rw[Nat.pow_succ];have:=Int.natAbs_add_le z u;omega
theorem Wh.neg {k:Nat} {x:Rat} (hx:Wh k x):Wh k (-x):=by
 obtain ⟨z,rfl,b⟩:=hx;exact ⟨-z,by rw[Rat.intCast_neg],by rw[Int.natAbs_neg];exact b⟩
theorem Wh.sub {k:Nat} {x y:Rat} (hx:Wh k x) (hy:Wh k y):Wh (k+1) (x-y):=by
 rw[Rat.sub_eq_add_neg];exact hx.add hy.neg
theorem Wh.zero (k:Nat):Wh k 0:=⟨0,rfl,Nat.zero_le _⟩
theorem Wh.one (k:Nat):Wh k 1:=⟨1,rfl,Nat.one_le_two_pow⟩
theorem Wh.bt {k:Nat} {x:Rat} (h:Wh k x):Bt k x:=by
 obtain ⟨z,rfl,b⟩:=h;exact Bt.ofInt b
theorem Wh.pow {k:Nat} {x:Rat} (h:Wh k x) : ∀ n:Nat,Wh (n*k) (x^n)
 | 0=>by rw[Rat.pow_zero];exact Wh.one _
 | n+1=>by rw[Rat.pow_succ,Nat.succ_mul];exact (Wh.pow h n).mul h
theorem Wh.dot {k l:Nat} : ∀ {a b:List Rat},(∀ x∈a,Wh k x)->(∀ x∈b,Wh l x)->Wh (k+l+a.length) (CI a b)
 | [],b,_,_=>by cases b<;>exact Wh.zero _
 | x::a,[],_,_=>Wh.zero _
 | x::a,y::b,ha,hb=>by
  rw[CI,List.length_cons,<-Nat.add_assoc];exact (((ha x List.mem_cons_self).mul (hb y List.mem_cons_self)).le (by omega)).add (Wh.dot (λ z hz=>ha z (List.mem_cons_of_mem _ hz)) λ z hz=>hb z (List.mem_cons_of_mem _ hz))
theorem AlN {r:List Rat} (h:F3 r=r) (hn:r.length≠0):r.getD (r.length-1) 0≠0:=by
 have hl:=Y0 r;rw[h]at hl;obtain ⟨n,jd⟩ : ∃ n,r.length=n+1:=⟨r.length-1,by omega⟩;rw[jd,FM]at hl;rw[jd,Nat.add_sub_cancel];intro h0;rw[if_pos h0]at hl;have:=T6 r n;omega
def G9 (B A:List Rat) (n:Nat):GA where
 a:=(List.range n).map λ i=>if i=0 then (List.range n).map λ k => -(A.getD (k+1) 0) else FP n ((i-1:Nat):Int)
 b:=FP n 0
 c:=(List.range n).map λ i=>B.getD (i+1) 0-B.getD 0 0*A.getD (i+1) 0
 d:=B.getD 0 0
def subL (a b:List Rat):List Rat:=List.zipWith (· - ·) a b
theorem xP : ∀ (a b:List Rat) (x:Rat),(∀ i,a.getD i 0=b.getD i 0)->KR a x=KR b x
 | [],b,x,h=>by
  rw[xQ (p:=b) λ z hz=>by
   obtain ⟨i,hi⟩:=List.getElem?_of_mem hz;have:=h i;rw[List.getD_eq_getElem?_getD,List.getD_eq_getElem?_getD,hi]at this;simpa using this.symm]
  rfl
 | u::a,[],x,h=>by
  rw[xQ (p:=u::a) λ z hz=>by
   obtain ⟨i,hi⟩:=List.getElem?_of_mem hz;have:=h i;rw[List.getD_eq_getElem?_getD,hi]at this;simpa using this]
  rfl
 | u::a,v::b,x,h=>by
  have h0:u=v:=by simpa using h 0
  rw[KR,KR,h0,xP a b x λ i=>by simpa using h (i+1)]
theorem Ahi (p:List Rat) (x:Rat):KR (F3 p) x=KR p x:=xP _ _ x (AlM p)
theorem bE.trim {g:List Pt} {n:Nat} {p:List Rat} (h:bE g n p):bE g n (F3 p):=λ k hk=>by
 rw[<-h k hk];exact kF λ q _=>by rw[Ahi]
end Go.Eng

namespace Go.Eng
theorem Mf {k:Nat} {f:Pt->Rat} : ∀ {g:List Pt},(∀ p∈g,Wh k (f p))->Wh (k+g.length) (IZ g f)
 | [],_=>Wh.zero _
 | p::g,h=>by
  rw[VT,List.length_cons,<-Nat.add_assoc];exact ((h p List.mem_cons_self).le (by omega)).add (Mf λ q hq=>h q (List.mem_cons_of_mem _ hq))
structure ZE (M ky:Nat) (g:List Pt):Prop where
 len:1<=g.length/\g.length<=12
 lt:(g.map (·.x)).Pairwise (· < ·)
 pos : ∀ p∈g,0<p.w
 wx : ∀ p∈g,Wh 6 (((12:Nat):Rat)*p.x)
 ww : ∀ p∈g,Wh 7 (((12:Nat):Rat)*p.w)
 wy : ∀ p∈g,Wh ky ((M:Rat)*p.y)
theorem Bt.pf {M k m:Nat} {x:Rat} (hM:1<=M) (hm:M<=2^m) (h:Wh k ((M:Rat)*x)):Bt (k+m) x:=by
 have h0:(M:Rat)≠0:=λ e=>by
  have:(M:Rat)=((0:Nat):Rat):=e
  have:=Rat.natCast_inj.1 this
  omega
 have e:x=((M:Rat)*x)/(M:Rat):=by
  have:=Rat.mul_inv_cancel (M:Rat) h0
  rw[Rat.div_def];grind
 rw[e];exact h.bt.divL (by
  have:=Bt.ofInt (k:=m) (z:=(M:Int)) (by simpa using hm)
  rwa [Rat.intCast_natCast]at this)
section
variable {M ky:Nat} {g:List Pt}
theorem ZE.ok (h:ZE M ky g):sT g:=⟨h.lt.imp λ e9 e=>by rw[e]at e9;exact absurd e9 (Rat.lt_irrefl),h.pos⟩
theorem ZE.bx (h:ZE M ky g) {p:Pt} (hp:p∈g):Bt 10 p.x:=Bt.pf (m:=4) (by omega) (by decide) (h.wx p hp)
theorem ZE.bw (h:ZE M ky g) {p:Pt} (hp:p∈g):Bt 11 p.w:=Bt.pf (m:=4) (by omega) (by decide) (h.ww p hp)
structure sV (ky:Nat) (g:List Pt):Prop where
 ok:sT g
 wx : ∀ p∈g,Wh 6 p.x
 ww : ∀ p∈g,Wh 7 p.w
 wy : ∀ p∈g,Wh ky p.y
theorem sV.rhs (h:sV ky g) (k:Nat):Wh (7+k*6+ky+g.length) (rhs g k):=Mf λ p hp=>((h.ww p hp).mul ((h.wx p hp).pow k)).mul (h.wy p hp)
end
end Go.Eng

namespace Go.Eng
open F
attribute [local irreducible] AH BJ B1 BD EZ CF CG CR CU DW B5 DT EG F7 DM CQ DR EE AR CW BW pw DC C9 EI ET E1 E7 EW D4 E8
variable {L:Lib}
set_option maxHeartbeats 16000000
end Go.Eng
