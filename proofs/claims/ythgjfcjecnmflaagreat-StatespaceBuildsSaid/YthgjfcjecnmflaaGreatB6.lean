/-
  The walk by computation is sound.
-/
import Derived.Test.YthgjfcjecnmflaaGreatB5
set_option linter.unusedSimpArgs false
set_option linter.unusedVariables false
set_option linter.unnecessarySimpa false
namespace Go.e6
theorem CW {a b:Nat}:Nat.beq a b=true↔a=b:=⟨Nat.eq_of_beq_eq_true,λ h=>by subst h;simp⟩
theorem IZ {a b:Nat}:Nat.beq a b=false↔a≠b:=by
 constructor
 ·exact Nat.ne_of_beq_eq_false
 ·intro h
  cases e:Nat.beq a b
  ·rfl
  ·exact absurd (Nat.eq_of_beq_eq_true e) h
theorem P9 (j:Nat) : ∀ tm:Tm,tg tm j=g6 tm j
 | []=>rfl
 | (i,v)::r=>by
  simp only[tg,eL,P9 j r];cases e:Nat.beq j i
  ·rw[if_neg (IZ.1 e)];rfl
  ·rw[if_pos (CW.1 e)];rfl
theorem NU : ∀ (l:List AV) (K:List AV->Prop),fL l K=K l
 | [],_=>rfl
 | v::r,K=>by rw[fL,NU r]
theorem cZ : ∀ (l:Tm) (K:Tm->Prop),fT l K=K l
 | [],_=>rfl
 | (i,v)::r,K=>by rw[fT,cZ r]
theorem VH : ∀ (l:Mem) (K:Mem->Prop),fM l K=K l
 | [],_=>rfl
 | (k,s,c)::r,K=>by rw[fM,VH r]
theorem Agh (n:Nat) (K:Nat->Prop):fN n K=K n:=by cases n<;>rfl
theorem lF (m i:Nat):bit m i=m.testBit i:=by
 have h:Nat.land (Nat.shiftRight m i) 1=(m >>> i)%2:=Nat.and_one_is_mod (m >>> i);have ht:m.testBit i=decide ((m >>> i)%2=1):=by
  rw[Nat.testBit,Nat.and_comm,Nat.and_one_is_mod];rcases Nat.mod_two_eq_zero_or_one (m >>> i) with e|e<;>simp [e]
 unfold bit;rw[h,ht];rcases Nat.mod_two_eq_zero_or_one (m >>> i) with e|e<;>rw[e]<;>rfl
theorem tJ (m i j:Nat):bit (Nat.lor m (Nat.shiftLeft 1 i)) j=(bit m j||decide (j=i)):=by
 rw[lF,lF];show (m ||| (1 <<< i)).testBit j=_;rw[Nat.testBit_or,Nat.testBit_shiftLeft];congr 1;by_cases h:j=i
 ·subst h;simp
 ·by_cases h2:j≥i
  ·obtain ⟨d,rfl⟩ : ∃ d,j=i+d+1:=⟨j-i-1,by omega⟩
   rw[show i+d+1-i=d+1 by omega,Nat.testBit_succ];simp [h]
  ·simp [h2,h]
theorem tH : ∀ (ts:List Nat) (m j:Nat),bit (mask m ts) j=(bit m j||ts.contains j)
 | [],m,j=>by simp [mask]
 | t::ts,m,j=>by
  rw[mask,tH ts,tJ,List.contains_cons,Bool.or_assoc];congr 2
theorem lG (j:Nat):bit 0 j=false:=by rw[lF];simp
theorem eJ (j:Nat) : ∀ (tm:Tm) (m:Nat),tg (wu m tm) j=bif bit m j then .any else tg tm j
 | [],m=>by cases bit m j<;>rfl
 | (i,v)::r,m=>by
  simp only[wu];cases hb:bit m i
  ·simp only[cond_false,tg,eJ j r,tJ]
   cases hj:Nat.beq j i
   ·have:decide (j=i)=false:=by simpa using IZ.1 hj
    simp only[cond_false,this,Bool.or_false]
   ·obtain rfl:=CW.1 hj
    simp only[cond_true,hb,cond_false]
  ·simp only[cond_true,tg,eJ j r]
   cases hj:Nat.beq j i
   ·rfl
   ·obtain rfl:=CW.1 hj
    simp only[hb,cond_true]
theorem gZ {v:AV} {K:AV->Prop} (h:fV v K):v ≠ .any/\K v:=by
 cases v<;>simp only[fV,NU]at h<;>first|exact h.elim|exact ⟨(by intro e;cases e),h⟩
theorem gY {v:AV} {K:List AV->Prop} (h:fC v K):v ≠ .any /\ ∃ cs,cellsOf v=some cs/\K cs:=by
 cases v<;>simp only[fC,fV,NU]at h<;>first|exact h.elim|exact ⟨(by intro e;cases e),_,rfl,h⟩
theorem WD (b:Bool) (K:Bool->Prop):fB b K=K b:=by cases b<;>rfl
theorem Pg {k:Nat} {tm:Tm} {M:Mem} (h:used k tm M=false):KP k M=false/\OJ k tm=false:=by
 unfold used at h;cases h1:KP k M<;>simp only[h1,cond_true,cond_false]at h
 ·exact ⟨rfl,h⟩
 ·cases h
theorem Mi {tm:Tm} {M:Mem} {K:Nat->Prop} : ∀ {l:List Nat},iQ tm M l K -> ∃ k,KP k M=false/\OJ k tm=false/\K k
 | [],h=>h.elim
 | k::r,h=>by
  simp only[iQ]at h;cases h0:used k tm M<;>simp only[h0,cond_true,cond_false]at h
  ·exact ⟨k,(Pg h0).1,(Pg h0).2,h⟩
  ·exact Mi h
theorem N7 {s:Nat} {tm:Tm} {M:Mem} {K:Nat->Prop} (h:JV s tm M K) : ∃ k,KP k M=false/\OJ k tm=false/\K k:=Mi h
section
variable {σ:IY}
def ET (σ:IY) (k:Nat) (f:Nat->Nat × Nat):IY:=λ j t=>if j=k then f t else σ j t
theorem EC {k j:Nat} (f:Nat->Nat × Nat) (h:j≠k):ET σ k f j=σ j:=by funext t;simp [ET,h]
theorem C9 (k:Nat) (f:Nat->Nat × Nat):ET σ k f k=f:=by funext t;simp [ET]
theorem qY {k:Nat} {p:Nat->Nat × Nat} {v:AV} (h:UJ k v=false):B8 (ET σ k p) v=B8 σ v:=by
 cases v with
 | row j t z o n=>simp only[UJ]at h;simp only[B8,EC p (IZ.1 h)]
 | ptr j t a b=>simp only[UJ]at h;simp only[B8,EC p (IZ.1 h)]
 | _=>rfl
theorem aN {k:Nat} {p:Nat->Nat × Nat} : ∀ {cs:List AV},OH k cs=false->cs.map (B8 (ET σ k p))=cs.map (B8 σ)
 | [],_=>rfl
 | c::r,h=>by
  simp only[OH]at h;cases h1:UJ k c<;>simp only[h1,cond_true,cond_false]at h
  ·rw[List.map_cons,List.map_cons,qY h1,aN h]
  ·cases h
theorem qW {k:Nat} {p:Nat->Nat × Nat} : ∀ {es:List (List AV)},PI k es=false->(es.map λ cs=>cs.map (B8 (ET σ k p)))=es.map λ cs=>cs.map (B8 σ)
 | [],_=>rfl
 | c::r,h=>by
  simp only[PI]at h;cases h1:OH k c<;>simp only[h1,cond_true,cond_false]at h
  ·rw[List.map_cons,List.map_cons,aN h1,qW h]
  ·cases h
theorem eH {k:Nat} {p:Nat->Nat × Nat} {v:AV} (h:WO k v=false):C0 (ET σ k p) v=C0 σ v:=by
 cases v with
 | agg cs=>simp only[WO]at h;simp only[C0,aN h]
 | fn p f g cs=>simp only[WO]at h;simp only[C0,aN h]
 | row a b c d e=>exact qY (v := .row a b c d e) h
 | ptr a b c d=>exact qY (v := .ptr a b c d) h
 | _=>rfl
theorem Qc {k:Nat} {p:Nat->Nat × Nat} : ∀ {cs:List AV},aK k cs=false->cs.map (C0 (ET σ k p))=cs.map (C0 σ)
 | [],_=>rfl
 | c::r,h=>by
  simp only[aK]at h;cases h1:WO k c<;>simp only[h1,cond_true,cond_false]at h
  ·rw[List.map_cons,List.map_cons,eH h1,Qc h]
  ·cases h
theorem jT {k:Nat} {p:Nat->Nat × Nat} {v:AV} (h:UK k v=false):CI (ET σ k p) v=CI σ v:=by
 cases v with
 | g8 cs=>simp only[UK]at h;simp only[CI,Qc h]
 | agg cs=>exact eH (v := .agg cs) h
 | fn p f g cs=>exact eH (v := .fn p f g cs) h
 | row a b c d e=>exact eH (v := .row a b c d e) h
 | ptr a b c d=>exact eH (v := .ptr a b c d) h
 | _=>rfl
theorem aL {k:Nat} : ∀ {tm:Tm},OJ k tm=false -> ∀ j,UK k (tg tm j)=false
 | [],_,_=>rfl
 | (i,v)::r,h,j=>by
  simp only[OJ]at h;cases h1:UK k v<;>simp only[h1,cond_true,cond_false]at h
  ·simp only[tg]
   cases Nat.beq j i
   ·exact aL h j
   ·exact h1
  ·cases h
theorem VQ {k:Nat} : ∀ {M:Mem},KP k M=false -> ∀ j s c,c9 M j=some (s,c)->j≠k/\M5 k c=false
 | [],_,_,_,_,e=>by cases e
 | (i,s0,c0)::r,h,j,s,c,e=>by
  simp only[KP]at h;cases h0:Nat.beq k i<;>simp only[h0,cond_true,cond_false]at h
  ·cases h1:M5 k c0<;>simp only[h1,cond_true,cond_false]at h
   ·simp only[c9]at e
    cases h2:Nat.beq j i<;>simp only[h2,cond_true,cond_false]at e
    ·exact VQ h j s c e
    ·simp only[Option.some.injEq,Prod.mk.injEq]at e
     obtain ⟨_,rfl⟩:=e;exact ⟨λ e=>IZ.1 h0 (e.symm.trans (CW.1 h2)),h1⟩
   ·cases h
  ·cases h
theorem XJ {σ σ':IY} {k:Nat} : ∀ (rows:List (Option (Nat × List (List AV)))) (i:Nat),(∀ j,i<=j->σ k (j+1)=σ' k (j+1))->DE σ k i rows=DE σ' k i rows
 | [],i,h=>rfl
 | none::r,i,h=>by rw[DE,DE,XJ r (i+1) λ j hj=>h j (by omega)]
 | some (z,es)::r,i,h=>by rw[DE,DE,XJ r (i+1) λ j hj=>h j (by omega),h i (by omega)]
theorem IU {k:Nat} : ∀ (rows:List (Option (Nat × List (List AV)))) (i j:Nat),(DE σ k i rows)[j]? = (rows[j]?).map λ r=>match r with|none=>[.nil]|some (z,es)=>[.row (σ k (i+j+1)).1 (σ k (i+j+1)).2 z 0 es.length]
 | [],i,j=>by simp [DE]
 | none::r,i,0=>by simp [DE]
 | none::r,i,j+1=>by simp only[DE,List.getElem?_cons_succ,IU r (i+1) j];rw[show i+1+j=i+(j+1) by omega]
 | some (z,es)::r,i,0=>by simp [DE]
 | some (z,es)::r,i,j+1=>by simp only[DE,List.getElem?_cons_succ,IU r (i+1) j];rw[show i+1+j=i+(j+1) by omega]
theorem HV {k:Nat} : ∀ (rows:List (Option (Nat × List (List AV)))) (i:Nat),(DE σ k i rows).length=rows.length
 | [],i=>rfl
 | none::r,i=>by simp [DE,HV r]
 | some (z,es)::r,i=>by simp [DE,HV r]
theorem fU {k j:Nat} {f:Nat->Nat × Nat} {c:B6} (h:M5 k c=false) (hj:j≠k):c.e7 (ET σ k f) j=c.e7 σ j:=by
 cases c with
 | bx cs=>simp only[M5]at h;simp only[B6.e7,aN h]
 | rw z es=>rfl
 | bs z es=>simp only[M5]at h;simp only[B6.e7,qW h]
 | mx rows=>simp only[B6.e7];rw[XJ rows 0 λ i _=>by rw[EC f hj]]
 | hx a v rows=>simp only[B6.e7];rw[XJ rows 0 λ i _=>by rw[EC f hj]]
 | vw w rows=>simp only[B6.e7];rw[XJ rows 0 λ i _=>by rw[EC f hj]]
theorem Zc {v:AV} (h:tk v=true):B8 σ v=v:=by cases v<;>first|rfl|cases h
theorem PE : ∀ {cs:List AV},GH cs=true->cs.map (B8 σ)=cs
 | [],_=>rfl
 | c::r,h=>by
  simp only[GH]at h;cases h1:tk c<;>simp only[h1,cond_true,cond_false]at h
  ·cases h
  ·rw[List.map_cons,Zc h1,PE h]
theorem Zb {k:Nat} {v:AV} (h:tk v=true):UJ k v=false:=by cases v<;>first|rfl|cases h
theorem mF {k:Nat} : ∀ {cs:List AV},GH cs=true->OH k cs=false
 | [],_=>rfl
 | c::r,h=>by
  simp only[GH]at h;cases h1:tk c<;>simp only[h1,cond_true,cond_false]at h
  ·cases h
  ·simp only[OH,Zb h1,mF h,cond_false]
theorem AdU (v:AV):cv v = .any\/(cv v=v/\CI σ v=v):=by
 cases v with
 | agg cs =>
  simp only[cv];cases h:GH cs
  ·exact Or.inl rfl
  ·exact Or.inr ⟨rfl,by simp only[CI,C0,PE h]⟩
 | g8 vs=>cases vs with
  | nil=>exact Or.inr ⟨rfl,rfl⟩
  | cons=>exact Or.inl rfl
 | fn p f g cs=>cases cs with
  | nil=>exact Or.inr ⟨rfl,rfl⟩
  | cons=>exact Or.inl rfl
 | _=>first|exact Or.inl rfl|exact Or.inr ⟨rfl,rfl⟩
theorem AdR {k:Nat} (v:AV):UK k (cv v)=false:=by
 cases v with
 | agg cs =>
  simp only[cv];cases h:GH cs
  ·rfl
  ·exact mF h
 | g8 vs=>cases vs<;>rfl
 | fn p f g cs=>cases cs<;>rfl
 | _=>rfl
variable {tm:Tm} {M:Mem} {st:St}
theorem RX.ev (h:RX σ tm M st) {x:BH} {v:AV} (e:ex tm x=v) (hv:v ≠ .any):st.ev x=CI σ v:=by
 cases x with
 | t n =>
  simp only[ex]at e;rcases h.tm n with h|h
  ·exact absurd (e.symm.trans h) hv
  ·rw[e]at h;exact h
 | c u =>
  simp only[ex]at e;rcases AdU (σ:=σ) u with h|⟨h,h'⟩
  ·exact absurd (e.symm.trans h) hv
  ·rw[<-e,h,h'];rfl
theorem xI {k:Nat} (h:OJ k tm=false) (x:BH):UK k (ex tm x)=false:=by
 cases x with
 | t n=>exact aL h n
 | c u=>exact AdR u
theorem Mq {k:Nat} {v:AV} {cs:List AV} (h:UK k v=false) (e:cellsOf v=some cs):OH k cs=false:=by
 cases v<;>simp only[cellsOf,Option.some.injEq,reduceCtorEq]at e<;>subst e<;>first|exact h|rfl|(simp only[UK,WO]at h;simp only[OH,h,cond_false])
theorem U7 {v:AV} {cs:List AV} (e:cellsOf v=some cs):cellsOf (CI σ v)=some (cs.map (B8 σ)):=by
 cases v<;>simp only[cellsOf,Option.some.injEq,reduceCtorEq]at e<;>subst e<;>rfl
def B6.flat:B6->Prop
 | .mx rows => ∀ (i:Nat) (x:Nat × List (List AV)),rows[i]? = some (some x)->False
 | .hx _ _ _=>False
 | .vw _ _=>False
 | _=>True
theorem GY {M:Mem} {k s:Nat} {c:B6} (h:c9 M k=some (s,c)):c8 M k 0=some c:=by simp [c8,h]
theorem PS {M:Mem} {k t:Nat} {c:B6} (h:c8 M k t=some c) : ∃ s c0,c9 M k=some (s,c0)/\(t=0->c=c0)/\(∀ i,t=i+1 -> ∃ rows z es,((c0 = .mx rows \/ ∃ a v,c0 = .hx a v rows) \/ ∃ w,c0 = .vw w rows)/\rows[i]? = some (some (z,es))/\c = .rw z es):=by
 unfold c8 at h;cases hm:c9 M k with
 | none=>simp [hm]at h
 | some x =>
  obtain ⟨s,c0⟩:=x;simp only[hm]at h;refine ⟨s,c0,rfl,?_,?_⟩
  ·rintro rfl;exact (Option.some.inj h).symm
  ·rintro i rfl
   cases c0 with
   | mx rows =>
    simp only at h;cases hr:rows[i]? with
    | none=>simp [hr]at h
    | some r =>
     cases r with
     | none=>simp [hr]at h
     | some ze=>obtain ⟨z,es⟩:=ze;simp only[hr,Option.some.injEq]at h;exact ⟨rows,z,es,Or.inl (Or.inl rfl),hr,h.symm⟩
   | hx a v rows =>
    simp only at h;cases hr:rows[i]? with
    | none=>simp [hr]at h
    | some r =>
     cases r with
     | none=>simp [hr]at h
     | some ze=>obtain ⟨z,es⟩:=ze;simp only[hr,Option.some.injEq]at h;exact ⟨rows,z,es,Or.inl (Or.inr ⟨a,v,rfl⟩),hr,h.symm⟩
   | vw w rows =>
    simp only at h;cases hr:rows[i]? with
    | none=>simp [hr]at h
    | some r =>
     cases r with
     | none=>simp [hr]at h
     | some ze=>obtain ⟨z,es⟩:=ze;simp only[hr,Option.some.injEq]at h;exact ⟨rows,z,es,Or.inr ⟨w,rfl⟩,hr,h.symm⟩
   | _=>simp at h
theorem RT {M:Mem} {k s:Nat} {c:B6} {j t:Nat} (h:j≠k):c8 ((k,s,c)::M) j t=c8 M j t:=by
 simp only[c8,c9,IZ.2 h,cond_false]
theorem YU {M:Mem} {k s:Nat} {c:B6}:c8 ((k,s,c)::M) k 0=some c:=by simp [c8,c9]
theorem aC {M:Mem} {k s:Nat} {c:B6} (hc:c.flat) {t:Nat} {c':B6} (h:c8 ((k,s,c)::M) k t=some c'):t=0/\c'=c:=by
 cases t with
 | zero=>rw[YU]at h;exact ⟨rfl,(Option.some.inj h).symm⟩
 | succ i =>
  simp only[c8,c9,Nat.beq_refl,cond_true]at h;cases c with
  | mx rows =>
   simp only at h;split at h
   ·rename_i z es hr
    exact (hc i (z,es) hr).elim
   ·cases h
  | hx a v rows=>exact hc.elim
  | vw w rows=>exact hc.elim
  | _=>simp at h
theorem AhJ {σ σ':IY} {k k':Nat} {rows:List (Option (Nat × List (List AV)))} (h:B6.flat (.mx rows)):DE σ k 0 rows=DE σ' k' 0 rows:=by
 apply List.ext_getElem?;intro j;rw[IU,IU];cases hr:rows[j]? with
 | none=>rfl
 | some r=>cases r with
  | none=>rfl
  | some x=>exact (h j x hr).elim
theorem RX.gp (h:RX σ tm M st) {s q:Nat} (hm:KP s M=false) (ht:OJ s tm=false) (c:B6) (hf:c.flat) (hc:M5 s c=false) (hl:c.nm=true->HU q=true) :
  RX (ET σ s λ_=>(q,st.own.j5 q)) tm ((s,q,c)::M) ⟨st.tm,st.own.put q ((st.own q).new (c.e7 σ s))⟩:=by
 have Kg : ∀ j t c',c8 M j t=some c'->((st.own.put q ((st.own q).new (c.e7 σ s))) (σ j t).1).e7 (σ j t).2=(st.own (σ j t).1).e7 (σ j t).2:=by
  intro j t c' e;by_cases hs:(σ j t).1=q
  ·have ho:=h.sat.old _ _ _ e
   rw[hs]at ho ⊢;simp only[BC.k7,DM.new];rw[if_neg (by omega)]
  ·rw[BC.gq _ _ _ _ hs]
 have Az : ∀ s',(st.own s').j5<=((st.own.put q ((st.own q).new (c.e7 σ s))) s').j5:=by
  intro s';by_cases hs:s'=q
  ·subst hs;simp only[BC.k7,DM.new];omega
  ·rw[BC.gq _ _ _ _ hs];exact Nat.le_refl _
 have m7 : ∀ j t c',j≠s->c8 ((s,q,c)::M) j t=some c'->c8 M j t=some c':=λ j t c' hj e=>by rwa [RT hj]at e
 have Bp : ∀ j t c',c8 M j t=some c'->M5 s c'=false/\j≠s:=by
  intro j t c' e;obtain ⟨s1,c0,g1,g2,g3⟩:=PS e;obtain ⟨g4,g5⟩:=VQ hm _ _ _ g1;refine ⟨?_,g4⟩;cases t with
  | zero=>rw[g2 rfl];exact g5
  | succ i=>obtain ⟨rows,z,es,_,_,rfl⟩:=g3 i rfl;rfl
 refine ⟨λ j => ?_,⟨?_,?_,?_,?_,?_⟩⟩
 ·rw[jT (aL ht j)];exact h.tm j
 ·intro j s' c' e
  simp only[c9]at e;cases hb:Nat.beq j s<;>simp only[hb,cond_true,cond_false]at e
  ·rw[EC _ (IZ.1 hb)];exact h.sat.site _ _ _ e
  ·simp only[Option.some.injEq,Prod.mk.injEq]at e
   obtain ⟨rfl,rfl⟩:=e;rw[CW.1 hb,C9]
 ·intro j t c' e
  by_cases hj:j=s
  ·subst hj
   obtain ⟨rfl,rfl⟩:=aC hf e;have hb:c'.e7 (ET σ j λ_=>(q,st.own.j5 q)) j=c'.e7 σ j:=by
    cases c' with
    | bx cs=>simp only[M5]at hc;simp only[B6.e7,aN hc]
    | rw z es=>rfl
    | bs z es=>simp only[M5]at hc;simp only[B6.e7,qW hc]
    | mx rows=>exact congrArg (GE.mk 1) (AhJ hf)
    | hx a v rows=>exact hf.elim
    | vw w rows=>exact hf.elim
   rw[C9,hb];simp [BC.k7,DM.new,BC.j5]
  ·have e':=m7 j t c' hj e
   rw[EC _ hj,fU (Bp j t c' e').1 hj];exact (Kg j t c' e').trans (h.sat.e7 _ _ _ e')
 ·intro j t c' e
  by_cases hj:j=s
  ·subst hj
   rw[C9];simp [BC.k7,DM.new,BC.j5]
  ·have e':=m7 j t c' hj e
   rw[EC _ hj];exact Nat.lt_of_lt_of_le (h.sat.old _ _ _ e') (Az _)
 ·have mj : ∀ j t c',c8 M j t=some c'->σ j t=(q,st.own.j5 q)->False:=by
   intro j t c' e hh;have h2:=h.sat.old _ _ _ e;rw[hh]at h2;exact absurd h2 (Nat.lt_irrefl _)
  intro j t j' t' c1 c2 e1 e2 hj;by_cases h1:j=s<;>by_cases h2:j'=s
  ·subst h1;subst h2
   exact ⟨rfl,(aC hf e1).1.trans (aC hf e2).1.symm⟩
  ·subst h1
   rw[C9,EC _ h2]at hj;exact (mj _ _ _ (m7 _ _ _ h2 e2) hj.symm).elim
  ·subst h2
   rw[C9,EC _ h1]at hj;exact (mj _ _ _ (m7 _ _ _ h1 e1) hj).elim
  ·rw[EC _ h1,EC _ h2]at hj
   exact h.sat.inj _ _ _ _ _ _ (m7 _ _ _ h1 e1) (m7 _ _ _ h2 e2) hj
 ·intro j t c' e hw
  by_cases hj:j=s
  ·subst hj
   obtain ⟨rfl,rfl⟩:=aC hf e;rw[C9];exact hl hw
  ·rw[EC _ hj];exact h.sat.low _ _ _ (m7 j t c' hj e) hw
theorem VN {k j:Nat} {x:Nat × B6} : ∀ {M:Mem},c9 (o7 k M) j=some x->j≠k/\c9 M j=some x
 | [],e=>by cases e
 | (i,s,c)::r,e=>by
  simp only[o7]at e;cases hb:Nat.beq k i<;>simp only[hb,cond_true,cond_false]at e
  ·simp only[c9]at e ⊢
   cases hj:Nat.beq j i<;>simp only[hj,cond_true,cond_false]at e ⊢
   ·exact VN e
   ·exact ⟨λ e'=>IZ.1 hb (e'.symm.trans (CW.1 hj)),e⟩
  ·obtain ⟨h1,h2⟩:=VN e
   refine ⟨h1,?_⟩;simp only[c9];rw[IZ.2 (λ e'=>h1 (e'.trans (CW.1 hb).symm))];exact h2
theorem YZ {own:BC} {p:Nat × Nat} {x:Option GE} {q:Nat × Nat} (h:q≠p):((own.put p.1 ((own p.1).q6 p.2 x)) q.1).e7 q.2=(own q.1).e7 q.2:=by
 by_cases hs:q.1=p.1
 ·rw[hs,BC.k7]
  simp only[DM.q6];rw[if_neg (λ e=>h (Prod.ext hs e))]
 ·rw[BC.gq _ _ _ _ hs]
theorem iR {own:BC} {p:Nat × Nat} {x:Option GE}:((own.put p.1 ((own p.1).q6 p.2 x)) p.1).e7 p.2=x:=by simp [BC.k7,DM.q6]
theorem dV {own:BC} {p:Nat × Nat} {x:Option GE} (s:Nat):((own.put p.1 ((own p.1).q6 p.2 x)) s).j5=(own s).j5:=by
 by_cases hs:s=p.1
 ·subst hs;rw[BC.k7];rfl
 ·rw[BC.gq _ _ _ _ hs]
theorem RX.Lr (h:RX σ tm M st) {k s:Nat} {c:B6} (e:c9 M k=some (s,c)) (hf:c.flat) (c':B6) (mw:c'.flat) (hir:c'.nm=true->c.nm=true) :
  RX σ tm ((k,s,c')::M) ⟨st.tm,st.own.put s ((st.own s).q6 (σ k 0).2 (some (c'.e7 σ k)))⟩:=by
 have hs:=h.sat.site _ _ _ e;subst hs;have e0:=GY e;have hg : ∀ j t c1,c8 ((k,(σ k 0).1,c')::M) j t=some c1->(j=k/\t=0/\c1=c')\/(j≠k/\c8 M j t=some c1):=by
  intro j t c1 e1;by_cases hj:j=k
  ·subst hj
   obtain ⟨rfl,rfl⟩:=aC mw e1;exact Or.inl ⟨rfl,rfl,rfl⟩
  ·rw[RT hj]at e1
   exact Or.inr ⟨hj,e1⟩
 have qg : ∀ j t c1,c8 ((k,(σ k 0).1,c')::M) j t=some c1 -> ∃ c2,c8 M j t=some c2:=by
  intro j t c1 e1;rcases hg j t c1 e1 with ⟨rfl,rfl,rfl⟩|⟨_,h2⟩
  ·exact ⟨c,e0⟩
  ·exact ⟨c1,h2⟩
 refine ⟨h.tm,⟨?_,?_,?_,?_,?_⟩⟩
 ·intro j s' c1 e1
  simp only[c9]at e1;cases hb:Nat.beq j k<;>simp only[hb,cond_true,cond_false]at e1
  ·exact h.sat.site _ _ _ e1
  ·simp only[Option.some.injEq,Prod.mk.injEq]at e1
   rw[CW.1 hb];exact e1.1
 ·intro j t c1 e1
  rcases hg j t c1 e1 with ⟨rfl,rfl,rfl⟩|⟨h1,h2⟩
  ·exact iR
  ·refine (YZ (λ he => ?_)).trans (h.sat.e7 _ _ _ h2)
   exact h1 (h.sat.inj _ _ _ _ _ _ h2 e0 he).1
 ·intro j t c1 e1
  obtain ⟨c2,e2⟩:=qg _ _ _ e1;show (σ j t).2<((st.own.put (σ k 0).1 ((st.own (σ k 0).1).q6 (σ k 0).2 (some (c'.e7 σ k)))) (σ j t).1).j5;rw[dV];exact h.sat.old _ _ _ e2
 ·intro j t j' t' c1 c2 e1 e2 hj
  obtain ⟨_,Ea⟩:=qg _ _ _ e1;obtain ⟨_,Aq⟩:=qg _ _ _ e2;exact h.sat.inj _ _ _ _ _ _ Ea Aq hj
 ·intro j t c1 e1 hw
  rcases hg j t c1 e1 with ⟨rfl,rfl,rfl⟩|⟨_,h2⟩
  ·exact h.sat.low _ _ _ e0 (hir hw)
  ·exact h.sat.low _ _ _ h2 hw
theorem Nz {k t:Nat} {c:B6} (h:c8 M k (t+1)=some c):c.nm=true:=by
 obtain ⟨_,_,_,_,g3⟩:=PS h;obtain ⟨_,_,_,_,_,rfl⟩:=g3 t rfl;rfl
theorem RU {k j t:Nat} {c:B6} (h:c8 (o7 k M) j t=some c):j≠k/\c8 M j t=some c:=by
 obtain ⟨s,c0,g1,_⟩:=PS h;obtain ⟨h1,h2⟩:=VN g1;refine ⟨h1,?_⟩;unfold c8 at h ⊢;rw[g1]at h;rw[h2];exact h
theorem RX.kill (h:RX σ tm M st) {k s:Nat} {c:B6} (e:c9 M k=some (s,c)) :
  RX σ tm (o7 k M) ⟨st.tm,st.own.put s ((st.own s).q6 (σ k 0).2 none)⟩:=by
 have hs:=h.sat.site _ _ _ e;subst hs;have e0:=GY e;refine ⟨h.tm,⟨?_,?_,?_,?_,?_⟩⟩
 ·intro j s' c1 e1
  exact h.sat.site _ _ _ (VN e1).2
 ·intro j t c1 e1
  obtain ⟨hj,e1⟩:=RU e1;refine (YZ (λ he => ?_)).trans (h.sat.e7 _ _ _ e1);exact hj (h.sat.inj _ _ _ _ _ _ e1 e0 he).1
 ·intro j t c1 e1
  obtain ⟨hj,e1⟩:=RU e1;show (σ j t).2<((st.own.put (σ k 0).1 ((st.own (σ k 0).1).q6 (σ k 0).2 none)) (σ j t).1).j5;rw[dV];exact h.sat.old _ _ _ e1
 ·intro j t j' t' c1 c2 e1 e2 hj
  exact h.sat.inj _ _ _ _ _ _ (RU e1).2 (RU e2).2 hj
 ·intro j t c1 e1 hw
  exact h.sat.low _ _ _ (RU e1).2 hw
theorem RX.Ln (h:RX σ tm M st) {k s i z:Nat} {rows:List (Option (Nat × List (List AV)))} {es es':List (List AV)} (e:c9 M k=some (s,.mx rows)) (hr:rows[i]? = some (some (z,es))) (hl:es'.length=es.length) :
  RX σ tm ((k,s,.mx (rows.set i (some (z,es'))))::M) ⟨st.tm,st.own.put (σ k (i+1)).1 ((st.own (σ k (i+1)).1).q6 (σ k (i+1)).2 (some ⟨z,es'⟩))⟩:=by
 have e1:c8 M k (i+1)=some (.rw z es):=by simp [c8,e,hr]
 have hi:i<rows.length:=(zS hr).1;have lj:DE σ k 0 (rows.set i (some (z,es')))=DE σ k 0 rows:=by
  apply List.ext_getElem?;intro j;rw[IU,IU];by_cases hj:i=j
  ·subst hj;rw[List.getElem?_set_self hi,hr];simp [hl]
  ·rw[List.getElem?_set_ne hj]
 have hg : ∀ j t c1,c8 ((k,s,.mx (rows.set i (some (z,es'))))::M) j t=some c1->(j=k/\t=i+1/\c1 = .rw z es')\/(¬ (j=k/\t=i+1) /\ ∃ c2,c8 M j t=some c2/\c2.e7 σ j=c1.e7 σ j):=by
  intro j t c1 g;by_cases hj:j=k
  ·subst hj
   cases t with
   | zero =>
    rw[YU]at g;obtain rfl:=Option.some.inj g;exact Or.inr ⟨by omega,_,GY e,by simp only[B6.e7,lj]⟩
   | succ t =>
    simp only[c8,c9,Nat.beq_refl,cond_true]at g;by_cases Ah:i=t
    ·subst Ah
     rw[List.getElem?_set_self hi]at g;exact Or.inl ⟨rfl,rfl,(Option.some.inj g).symm⟩
    ·rw[List.getElem?_set_ne Ah]at g
     refine Or.inr ⟨by omega,c1,?_,rfl⟩;simp only[c8,e];exact g
  ·rw[RT hj]at g
   exact Or.inr ⟨by omega,c1,g,rfl⟩
 have qg : ∀ j t c1,c8 ((k,s,.mx (rows.set i (some (z,es'))))::M) j t=some c1 -> ∃ c2,c8 M j t=some c2:=by
  intro j t c1 g;rcases hg j t c1 g with ⟨rfl,rfl,rfl⟩|⟨_,c2,h2,_⟩
  ·exact ⟨_,e1⟩
  ·exact ⟨c2,h2⟩
 refine ⟨h.tm,⟨?_,?_,?_,?_,?_⟩⟩
 ·intro j s' c1 g
  simp only[c9]at g;cases hb:Nat.beq j k<;>simp only[hb,cond_true,cond_false]at g
  ·exact h.sat.site _ _ _ g
  ·simp only[Option.some.injEq,Prod.mk.injEq]at g
   rw[CW.1 hb,<-g.1];exact h.sat.site _ _ _ e
 ·intro j t c1 g
  rcases hg j t c1 g with ⟨rfl,rfl,rfl⟩|⟨h1,c2,h2,h3⟩
  ·exact iR
  ·rw[<-h3]
   refine (YZ (λ he => ?_)).trans (h.sat.e7 _ _ _ h2);exact h1 (h.sat.inj _ _ _ _ _ _ h2 e1 he)
 ·intro j t c1 g
  obtain ⟨c2,e2⟩:=qg _ _ _ g;show (σ j t).2<((st.own.put (σ k (i+1)).1 ((st.own (σ k (i+1)).1).q6 (σ k (i+1)).2 (some ⟨z,es'⟩))) (σ j t).1).j5;rw[dV];exact h.sat.old _ _ _ e2
 ·intro j t j' t' c1 c2 g1 g2 hj
  obtain ⟨_,Ea⟩:=qg _ _ _ g1;obtain ⟨_,Aq⟩:=qg _ _ _ g2;exact h.sat.inj _ _ _ _ _ _ Ea Aq hj
 ·intro j t c1 g hw
  obtain ⟨c2,e2⟩:=qg _ _ _ g;cases t with
  | zero =>
   by_cases hj:j=k
   ·subst hj;exact h.sat.low _ _ _ (GY e) rfl
   ·rw[RT hj]at g;exact h.sat.low _ _ _ g hw
  | succ t=>exact h.sat.low _ _ _ e2 (Nz e2)
section
variable {k:Nat} {f:Nat->Nat × Nat}
theorem qX {v:AV} (hf:f 0=σ k 0) (h:V9 k v=false):B8 (ET σ k f) v=B8 σ v:=by
 cases v with
 | row j t z o n =>
  simp only[V9]at h;cases hb:Nat.beq j k
  ·simp only[B8,EC f (IZ.1 hb)]
  ·obtain rfl:=CW.1 hb
   simp only[hb,cond_true]at h;cases t with
   | zero=>simp only[B8,C9,hf]
   | succ t=>cases h
 | ptr j t a b =>
  simp only[V9]at h;cases hb:Nat.beq j k
  ·simp only[B8,EC f (IZ.1 hb)]
  ·obtain rfl:=CW.1 hb
   simp only[hb,cond_true]at h;cases t with
   | zero=>simp only[B8,C9,hf]
   | succ t=>cases h
 | _=>rfl
theorem eF (hf:f 0=σ k 0) : ∀ {cs:List AV},U8 k cs=false->cs.map (B8 (ET σ k f))=cs.map (B8 σ)
 | [],_=>rfl
 | c::r,h=>by
  simp only[U8]at h;cases h1:V9 k c<;>simp only[h1,cond_true,cond_false]at h
  ·rw[List.map_cons,List.map_cons,qX hf h1,eF hf h]
  ·cases h
theorem Qa (hf:f 0=σ k 0) : ∀ {es:List (List AV)},ZO k es=false->(es.map λ cs=>cs.map (B8 (ET σ k f)))=es.map λ cs=>cs.map (B8 σ)
 | [],_=>rfl
 | c::r,h=>by
  simp only[ZO]at h;cases h1:U8 k c<;>simp only[h1,cond_true,cond_false]at h
  ·rw[List.map_cons,List.map_cons,eF hf h1,Qa hf h]
  ·cases h
theorem eG {v:AV} (hf:f 0=σ k 0) (h:X9 k v=false):C0 (ET σ k f) v=C0 σ v:=by
 cases v with
 | agg cs=>simp only[X9]at h;simp only[C0,eF hf h]
 | fn p f g cs=>simp only[X9]at h;simp only[C0,eF hf h]
 | row a b c d e=>exact qX (v := .row a b c d e) hf h
 | ptr a b c d=>exact qX (v := .ptr a b c d) hf h
 | _=>rfl
theorem Qb (hf:f 0=σ k 0) : ∀ {cs:List AV},ZN k cs=false->cs.map (C0 (ET σ k f))=cs.map (C0 σ)
 | [],_=>rfl
 | c::r,h=>by
  simp only[ZN]at h;cases h1:X9 k c<;>simp only[h1,cond_true,cond_false]at h
  ·rw[List.map_cons,List.map_cons,eG hf h1,Qb hf h]
  ·cases h
theorem AiY {v:AV} (hf:f 0=σ k 0) (h:W7 k v=false):CI (ET σ k f) v=CI σ v:=by
 cases v with
 | g8 cs=>simp only[W7]at h;simp only[CI,Qb hf h]
 | agg cs=>exact eG (v := .agg cs) hf h
 | fn p f g cs=>exact eG (v := .fn p f g cs) hf h
 | row a b c d e=>exact eG (v := .row a b c d e) hf h
 | ptr a b c d=>exact eG (v := .ptr a b c d) hf h
 | _=>rfl
theorem uB : ∀ {tm:Tm},U9 k tm=false -> ∀ j,W7 k (tg tm j)=false
 | [],_,_=>rfl
 | (i,v)::r,h,j=>by
  simp only[U9]at h;cases h1:W7 k v<;>simp only[h1,cond_true,cond_false]at h
  ·simp only[tg]
   cases Nat.beq j i
   ·exact uB h j
   ·exact h1
  ·cases h
theorem tW : ∀ {M:Mem},QI k M=false -> ∀ j s c,c9 M j=some (s,c)->WA k c=false
 | [],_,_,_,_,e=>by cases e
 | (i,s0,c0)::r,h,j,s,c,e=>by
  simp only[QI]at h;cases h1:WA k c0<;>simp only[h1,cond_true,cond_false]at h
  ·simp only[c9]at e
   cases h2:Nat.beq j i<;>simp only[h2,cond_true,cond_false]at e
   ·exact tW h j s c e
   ·simp only[Option.some.injEq,Prod.mk.injEq]at e
    obtain ⟨_,rfl⟩:=e;exact h1
  ·cases h
theorem Adq {c:B6} {j:Nat} (hf:f 0=σ k 0) (h:WA k c=false) (hj:j≠k):c.e7 (ET σ k f) j=c.e7 σ j:=by
 cases c with
 | bx cs=>simp only[WA]at h;simp only[B6.e7,eF hf h]
 | rw z es=>rfl
 | bs z es=>simp only[WA]at h;simp only[B6.e7,Qa hf h]
 | mx rows=>simp only[B6.e7];rw[XJ rows 0 λ i _=>by rw[EC f hj]]
 | hx a v rows=>simp only[B6.e7];rw[XJ rows 0 λ i _=>by rw[EC f hj]]
 | vw w rows=>simp only[B6.e7];rw[XJ rows 0 λ i _=>by rw[EC f hj]]
end
theorem RX.Ce (h:RX σ tm M st) {k k2 s s2 i z:Nat} {rows:List (Option (Nat × List (List AV)))} {es:List (List AV)} {c0:B6} (e:c9 M k=some (s,c0)) (jn:c0 = .mx rows \/ ∃ v,c0 = .hx i v rows) (e2:c9 M k2=some (s2,.rw z es)) (hk:k≠k2) (dm:U9 k tm=false) (ue:QI k M=false) (hi:i<rows.length) :
  RX (ET σ k λ t=>if t=i+1 then σ k2 0 else σ k t) tm ((k,s,.mx (rows.set i (some (z,es))))::o7 k2 M) ⟨st.tm,st.own.put s ((st.own s).q6 (σ k 0).2 (some ⟨1,(DE σ k 0 rows).set i [.row (σ k2 0).1 (σ k2 0).2 z 0 es.length]⟩))⟩:=by
 have hs:=h.sat.site _ _ _ e;subst hs;have r0:=GY e;have r2:=GY e2;have f0:(λ t=>if t=i+1 then σ k2 0 else σ k t) 0=σ k 0:=by simp
 have lj:DE (ET σ k λ t=>if t=i+1 then σ k2 0 else σ k t) k 0 (rows.set i (some (z,es)))=(DE σ k 0 rows).set i [.row (σ k2 0).1 (σ k2 0).2 z 0 es.length]:=by
  apply List.ext_getElem?;intro j;rw[IU,C9];by_cases hj:i=j
  ·subst hj
   rw[List.getElem?_set_self hi,List.getElem?_set_self (by rw[HV];exact hi)];simp
  ·rw[List.getElem?_set_ne hj,List.getElem?_set_ne hj,IU]
   congr 1;funext r
   cases r with
   | none=>rfl
   | some x=>simp only[Nat.zero_add];rw[if_neg (by omega)]
 have hg : ∀ j t c,c8 ((k,(σ k 0).1,.mx (rows.set i (some (z,es))))::o7 k2 M) j t=some c ->
   (j=k/\t=0/\c = .mx (rows.set i (some (z,es))))\/(j=k/\t=i+1/\c = .rw z es)\/(j=k/\t≠0/\t≠i+1/\c8 M k t=some c)\/(j≠k/\j≠k2/\c8 M j t=some c):=by
  intro j t c g;by_cases hj:j=k
  ·subst hj
   cases t with
   | zero=>rw[YU]at g;exact Or.inl ⟨rfl,rfl,(Option.some.inj g).symm⟩
   | succ t =>
    simp only[c8,c9,Nat.beq_refl,cond_true]at g;by_cases Ah:i=t
    ·subst Ah
     rw[List.getElem?_set_self hi]at g;exact Or.inr (Or.inl ⟨rfl,rfl,(Option.some.inj g).symm⟩)
    ·rw[List.getElem?_set_ne Ah]at g
     refine Or.inr (Or.inr (Or.inl ⟨rfl,by omega,by omega,?_⟩));rcases jn with rfl|⟨v,rfl⟩
     ·simp only[c8,e]
      exact g
     ·simp only[c8,e]
      exact g
  ·rw[RT hj]at g
   obtain ⟨g1,g2⟩:=RU g;exact Or.inr (Or.inr (Or.inr ⟨hj,g1,g2⟩))
 have hch : ∀ j t c,c8 M j t=some c->WA k c=false:=by
  intro j t c g;obtain ⟨s1,c0,g1,g2,g3⟩:=PS g;cases t with
  | zero=>rw[g2 rfl];exact tW ue _ _ _ g1
  | succ t=>obtain ⟨_,_,_,_,_,rfl⟩:=g3 t rfl;rfl
 refine ⟨λ j => ?_,⟨?_,?_,?_,?_,?_⟩⟩
 ·rw[AiY (f:=λ t=>if t=i+1 then σ k2 0 else σ k t) f0 (uB dm j)];exact h.tm j
 ·intro j s' c g
  simp only[c9]at g;cases hb:Nat.beq j k<;>simp only[hb,cond_true,cond_false]at g
  ·rw[EC _ (IZ.1 hb)];exact h.sat.site _ _ _ (VN g).2
  ·simp only[Option.some.injEq,Prod.mk.injEq]at g
   rw[CW.1 hb,C9,<-g.1];simp
 ·intro j t c g
  rcases hg j t c g with ⟨rfl,rfl,rfl⟩|⟨rfl,rfl,rfl⟩|⟨rfl,h0,h1,g2⟩|⟨h0,h1,g2⟩
  ·rw[C9]
   simp only[B6.e7,lj];exact iR
  ·rw[C9]
   simp only[if_true];exact (YZ (λ he=>hk (h.sat.inj _ _ _ _ _ _ r2 r0 he).1.symm)).trans (h.sat.e7 _ _ _ r2)
  ·rw[C9]
   simp only[h1,if_false];have hb:c.e7 (ET σ j λ t=>if t=i+1 then σ k2 0 else σ j t) j=c.e7 σ j:=by
    obtain ⟨_,_,_,_,g3⟩:=PS g2;obtain ⟨t',rfl⟩ : ∃ t',t=t'+1:=⟨t-1,by omega⟩;obtain ⟨_,_,_,_,_,rfl⟩:=g3 t' rfl;rfl
   rw[hb];exact (YZ (λ he=>h0 (h.sat.inj _ _ _ _ _ _ g2 r0 he).2)).trans (h.sat.e7 _ _ _ g2)
  ·rw[EC _ h0,Adq (f:=λ t=>if t=i+1 then σ k2 0 else σ k t) f0 (hch _ _ _ g2) h0]
   exact (YZ (λ he=>h0 (h.sat.inj _ _ _ _ _ _ g2 r0 he).1)).trans (h.sat.e7 _ _ _ g2)
 ·intro j t c g
  rw[dV];rcases hg j t c g with ⟨rfl,rfl,rfl⟩|⟨rfl,rfl,rfl⟩|⟨rfl,h0,h1,g2⟩|⟨h0,h1,g2⟩
  ·rw[C9];simpa using h.sat.old _ _ _ r0
  ·rw[C9];simpa using h.sat.old _ _ _ r2
  ·rw[C9];simp only[h1,if_false];exact h.sat.old _ _ _ g2
  ·rw[EC _ h0];exact h.sat.old _ _ _ g2
 ·-- each name is that of Dj in the old memory
  have hold : ∀ j t c,c8 ((k,(σ k 0).1,.mx (rows.set i (some (z,es))))::o7 k2 M) j t=some c -> ∃ j0 t0 c0,c8 M j0 t0=some c0/\(ET σ k λ t=>if t=i+1 then σ k2 0 else σ k t) j t=σ j0 t0/\((j0=k2/\t0=0/\j=k/\t=i+1)\/(j0=j/\t0=t/\j≠k2)):=by
   intro j t c g;rcases hg j t c g with ⟨rfl,rfl,rfl⟩|⟨rfl,rfl,rfl⟩|⟨rfl,h0,h1,g2⟩|⟨h0,h1,g2⟩
   ·exact ⟨_,_,_,r0,by rw[C9];simp,Or.inr ⟨rfl,rfl,hk⟩⟩
   ·exact ⟨_,_,_,r2,by rw[C9];simp,Or.inl ⟨rfl,rfl,rfl,rfl⟩⟩
   ·exact ⟨_,_,_,g2,by rw[C9];simp [h1],Or.inr ⟨rfl,rfl,hk⟩⟩
   ·exact ⟨_,_,_,g2,by rw[EC _ h0],Or.inr ⟨rfl,rfl,h1⟩⟩
  intro j t j' t' c c' g g' hj;obtain ⟨j0,t0,c0,a1,a2,a3⟩:=hold j t c g;obtain ⟨j1,t1,c1,b1,b2,b3⟩:=hold j' t' c' g';rw[a2,b2]at hj;obtain ⟨q1,q2⟩:=h.sat.inj _ _ _ _ _ _ a1 b1 hj;rcases a3 with ⟨x1,x2,x3,x4⟩|⟨x1,x2,x3⟩<;>rcases b3 with ⟨y1,y2,y3,y4⟩|⟨y1,y2,y3⟩
  ·exact ⟨x3.trans y3.symm,x4.trans y4.symm⟩
  ·exact absurd (y1.symm.trans (q1.symm.trans x1)) y3
  ·exact absurd (x1.symm.trans (q1.trans y1)) x3
  ·exact ⟨x1.symm.trans (q1.trans y1),x2.symm.trans (q2.trans y2)⟩
 ·intro j t c g hw
  rcases hg j t c g with ⟨rfl,rfl,rfl⟩|⟨rfl,rfl,rfl⟩|⟨rfl,h0,h1,g2⟩|⟨h0,h1,g2⟩
  ·rw[C9];simpa using h.sat.low _ _ _ r0 (by rcases jn with rfl|⟨v,rfl⟩<;>rfl)
  ·rw[C9];simpa using h.sat.low _ _ _ r2 rfl
  ·rw[C9];simp only[h1,if_false];exact h.sat.low _ _ _ g2 hw
  ·rw[EC _ h0];exact h.sat.low _ _ _ g2 hw
theorem YQ {own:BC} {q t:Nat} {b:GE} {p:Nat × Nat} (h:p≠(q,t)) (ho:p.2<(own p.1).j5):((own.put q (((own q).q6 t none).new b)) p.1).e7 p.2=(own p.1).e7 p.2:=by
 by_cases hs:p.1=q
 ·rw[hs]at ho ⊢
  rw[BC.k7];simp only[DM.new,DM.q6];have h1 : ¬ p.2=(own q).j5:=by omega
  have h2 : ¬ p.2=t:=λ e=>h (Prod.ext hs e)
  simp only[h1,h2,if_false]
 ·rw[BC.gq _ _ _ _ hs]
theorem YR {own:BC} {q t:Nat} {b:GE} (s:Nat):(own s).j5<=((own.put q (((own q).q6 t none).new b)) s).j5:=by
 by_cases hs:s=q
 ·subst hs;rw[BC.k7];simp only[DM.new,DM.q6];omega
 ·rw[BC.gq _ _ _ _ hs];exact Nat.le_refl _
theorem RX.Hx (h:RX σ tm M st) {s key sk i z:Nat} {rows:List (Option (Nat × List (List AV)))} {es es':List (List AV)} (e:c9 M key=some (sk,.mx rows)) (hr:rows[i]? = some (some (z,es))) (hm:KP s M=false) (ht:OJ s tm=false) :
  RX (ET σ s λ_=>((σ key (i+1)).1,st.own.j5 (σ key (i+1)).1)) tm ((s,(σ key (i+1)).1,.rw z es')::(key,sk,.hx i (.row (σ key (i+1)).1 (σ key (i+1)).2 z 0 es.length) (rows.set i none))::o7 key M)
   ⟨st.tm,st.own.put (σ key (i+1)).1 (((st.own (σ key (i+1)).1).q6 (σ key (i+1)).2 none).new ⟨z,es'⟩)⟩:=by
 have r0:=GY e;have e1:c8 M key (i+1)=some (.rw z es):=by simp [c8,e,hr]
 have hi:i<rows.length:=(zS hr).1;have Fa:key≠s:=(VQ hm _ _ _ e).1;have lj:(DE (ET σ s λ_=>((σ key (i+1)).1,st.own.j5 (σ key (i+1)).1)) key 0 (rows.set i none)).set i [.row (σ key (i+1)).1 (σ key (i+1)).2 z 0 es.length]=DE σ key 0 rows:=by
  apply List.ext_getElem?;intro j;by_cases hj:i=j
  ·subst hj
   rw[List.getElem?_set_self (by rw[HV,List.length_set];exact hi),IU,hr];simp
  ·rw[List.getElem?_set_ne hj,IU,IU,List.getElem?_set_ne hj,EC _ Fa]
 have Bp : ∀ j t c',c8 M j t=some c'->M5 s c'=false/\j≠s:=by
  intro j t c' g;obtain ⟨s1,c0,g1,g2,g3⟩:=PS g;obtain ⟨g4,g5⟩:=VQ hm _ _ _ g1;refine ⟨?_,g4⟩;cases t with
  | zero=>rw[g2 rfl];exact g5
  | succ i=>obtain ⟨rows,z,es,_,_,rfl⟩:=g3 i rfl;rfl
 have hg : ∀ j t c,c8 ((s,(σ key (i+1)).1,.rw z es')::(key,sk,.hx i (.row (σ key (i+1)).1 (σ key (i+1)).2 z 0 es.length) (rows.set i none))::o7 key M) j t=some c ->
   (j=s/\t=0/\c = .rw z es')\/(j=key/\t=0/\c = .hx i (.row (σ key (i+1)).1 (σ key (i+1)).2 z 0 es.length) (rows.set i none))\/(j≠s /\ ¬ (j=key/\t=0) /\ ¬ (j=key/\t=i+1)/\(j=key -> ∃ z es,c = .rw z es)/\c8 M j t=some c):=by
  intro j t c g;by_cases hj:j=s
  ·subst hj
   obtain ⟨rfl,rfl⟩:=aC (c := .rw z es') trivial g;exact Or.inl ⟨rfl,rfl,rfl⟩
  ·rw[RT hj]at g
   by_cases hk:j=key
   ·subst hk
    cases t with
    | zero=>rw[YU]at g;exact Or.inr (Or.inl ⟨rfl,rfl,(Option.some.inj g).symm⟩)
    | succ t =>
     simp only[c8,c9,Nat.beq_refl,cond_true]at g;by_cases Ah:i=t
     ·subst Ah
      rw[List.getElem?_set_self hi]at g;cases g
     ·rw[List.getElem?_set_ne Ah]at g
      refine Or.inr (Or.inr ⟨hj,by omega,by omega,λ_ => ?_,?_⟩)
      ·split at g
       ·exact ⟨_,_,(Option.some.inj g).symm⟩
       ·cases g
      ·simp only[c8,e]
       exact g
   ·rw[RT hk]at g
    obtain ⟨g1,g2⟩:=RU g;exact Or.inr (Or.inr ⟨hj,by omega,by omega,λ h=>absurd h hk,g2⟩)
 refine ⟨λ j => ?_,⟨?_,?_,?_,?_,?_⟩⟩
 ·rw[jT (aL ht j)];exact h.tm j
 ·intro j s1 c g
  simp only[c9]at g;cases hb:Nat.beq j s<;>simp only[hb,cond_true,cond_false]at g
  ·rw[EC _ (IZ.1 hb)]
   cases s8:Nat.beq j key<;>simp only[s8,cond_true,cond_false]at g
   ·exact h.sat.site _ _ _ (VN g).2
   ·simp only[Option.some.injEq,Prod.mk.injEq]at g
    rw[CW.1 s8,<-g.1];exact h.sat.site _ _ _ e
  ·simp only[Option.some.injEq,Prod.mk.injEq]at g
   rw[CW.1 hb,C9,<-g.1]
 ·intro j t c g
  rcases hg j t c g with ⟨rfl,rfl,rfl⟩|⟨rfl,rfl,rfl⟩|⟨h0,h1,h2,h3,g2⟩
  ·rw[C9]
   simp [BC.k7,DM.new,BC.j5,DM.q6,B6.e7]
  ·rw[EC _ Fa]
   simp only[B6.e7,lj];exact (YQ (λ he=>absurd (h.sat.inj _ _ _ _ _ _ r0 e1 he).2 (by omega)) (h.sat.old _ _ _ r0)).trans (h.sat.e7 _ _ _ r0)
  ·rw[EC _ h0,fU (Bp _ _ _ g2).1 h0]
   exact (YQ (λ he=>h2 (h.sat.inj _ _ _ _ _ _ g2 e1 he)) (h.sat.old _ _ _ g2)).trans (h.sat.e7 _ _ _ g2)
 ·intro j t c g
  rcases hg j t c g with ⟨rfl,rfl,rfl⟩|⟨rfl,rfl,rfl⟩|⟨h0,h1,h2,h3,g2⟩
  ·rw[C9]
   simp [BC.k7,DM.new,BC.j5,DM.q6]
  ·rw[EC _ Fa]
   exact Nat.lt_of_lt_of_le (h.sat.old _ _ _ r0) (YR _)
  ·rw[EC _ h0]
   exact Nat.lt_of_lt_of_le (h.sat.old _ _ _ g2) (YR _)
 ·have hold : ∀ j t c,c8 ((s,(σ key (i+1)).1,.rw z es')::(key,sk,.hx i (.row (σ key (i+1)).1 (σ key (i+1)).2 z 0 es.length) (rows.set i none))::o7 key M) j t=some c->(j=s/\t=0)\/(j≠s /\ ∃ c0,c8 M j t=some c0):=by
   intro j t c g;rcases hg j t c g with ⟨rfl,rfl,rfl⟩|⟨rfl,rfl,rfl⟩|⟨h0,h1,h2,h3,g2⟩
   ·exact Or.inl ⟨rfl,rfl⟩
   ·exact Or.inr ⟨Fa,_,r0⟩
   ·exact Or.inr ⟨h0,_,g2⟩
  have np : ∀ j0 t0 c0,c8 M j0 t0=some c0->((σ key (i+1)).1,st.own.j5 (σ key (i+1)).1)≠σ j0 t0:=by
   intro j0 t0 c0 g he;have:=h.sat.old _ _ _ g
   rw[<-he]at this;exact absurd this (Nat.lt_irrefl _)
  intro j t j' t' c c' g g' hj;rcases hold j t c g with ⟨rfl,rfl⟩|⟨a1,c1,a2⟩<;>rcases hold j' t' c' g' with ⟨rfl,rfl⟩|⟨b1,c2,b2⟩
  ·exact ⟨rfl,rfl⟩
  ·rw[C9,EC _ b1]at hj;exact absurd hj (np _ _ _ b2)
  ·rw[C9,EC _ a1]at hj;exact absurd hj.symm (np _ _ _ a2)
  ·rw[EC _ a1,EC _ b1]at hj
   exact h.sat.inj _ _ _ _ _ _ a2 b2 hj
 ·intro j t c g hw
  rcases hg j t c g with ⟨rfl,rfl,rfl⟩|⟨rfl,rfl,rfl⟩|⟨h0,h1,h2,h3,g2⟩
  ·rw[C9];exact h.sat.low _ _ _ e1 rfl
  ·rw[EC _ Fa];exact h.sat.low _ _ _ r0 rfl
  ·rw[EC _ h0];exact h.sat.low _ _ _ g2 hw
theorem RX.view (h:RX σ tm M st) {k s:Nat} {c0:B6} {rows:List (Option (Nat × List (List AV)))} {w:List Nat} (e:c9 M k=some (s,c0)) (jn:c0 = .mx rows \/ ∃ w0,c0 = .vw w0 rows) :
  RX σ tm ((k,s,.vw w rows)::M) ⟨st.tm,st.own.put s ((st.own s).q6 (σ k 0).2 (some (B6.e7 σ k (.vw w rows))))⟩:=by
 have hs:=h.sat.site _ _ _ e;subst hs;have r0:=GY e;have hg : ∀ j t c,c8 ((k,(σ k 0).1,.vw w rows)::M) j t=some c->(j=k/\t=0/\c = .vw w rows)\/(¬ (j=k/\t=0)/\c8 M j t=some c):=by
  intro j t c g;by_cases hj:j=k
  ·subst hj
   cases t with
   | zero=>rw[YU]at g;exact Or.inl ⟨rfl,rfl,(Option.some.inj g).symm⟩
   | succ t =>
    refine Or.inr ⟨by omega,?_⟩;simp only[c8,c9,Nat.beq_refl,cond_true]at g;rcases jn with rfl|⟨w0,rfl⟩
    ·simp only[c8,e]
     exact g
    ·simp only[c8,e]
     exact g
  ·rw[RT hj]at g
   exact Or.inr ⟨by omega,g⟩
 have qg : ∀ j t c1,c8 ((k,(σ k 0).1,.vw w rows)::M) j t=some c1 -> ∃ c2,c8 M j t=some c2:=by
  intro j t c1 g;rcases hg j t c1 g with ⟨rfl,rfl,rfl⟩|⟨_,h2⟩
  ·exact ⟨_,r0⟩
  ·exact ⟨_,h2⟩
 refine ⟨h.tm,⟨?_,?_,?_,?_,?_⟩⟩
 ·intro j s' c1 g
  simp only[c9]at g;cases hb:Nat.beq j k<;>simp only[hb,cond_true,cond_false]at g
  ·exact h.sat.site _ _ _ g
  ·simp only[Option.some.injEq,Prod.mk.injEq]at g
   rw[CW.1 hb];exact g.1
 ·intro j t c1 g
  rcases hg j t c1 g with ⟨rfl,rfl,rfl⟩|⟨h1,h2⟩
  ·exact iR
  ·refine (YZ (λ he => ?_)).trans (h.sat.e7 _ _ _ h2)
   exact h1 (h.sat.inj _ _ _ _ _ _ h2 r0 he)
 ·intro j t c1 g
  obtain ⟨c2,e2⟩:=qg _ _ _ g;show (σ j t).2<((st.own.put (σ k 0).1 ((st.own (σ k 0).1).q6 (σ k 0).2 _)) (σ j t).1).j5;rw[dV];exact h.sat.old _ _ _ e2
 ·intro j t j' t' c1 c2 g1 g2 hj
  obtain ⟨_,Ea⟩:=qg _ _ _ g1;obtain ⟨_,Aq⟩:=qg _ _ _ g2;exact h.sat.inj _ _ _ _ _ _ Ea Aq hj
 ·intro j t c1 g hw
  rcases hg j t c1 g with ⟨rfl,rfl,rfl⟩|⟨_,h2⟩
  ·exact h.sat.low _ _ _ r0 (by rcases jn with rfl|⟨w0,rfl⟩<;>rfl)
  ·exact h.sat.low _ _ _ h2 hw
theorem RX.Ib (h:RX σ tm M st) {s key s':Nat} {rows:List (Option (Nat × List (List AV)))} (e:c9 M key=some (s',.mx rows)) (hm:KP s M=false) (ht:OJ s tm=false) :
  RX (ET σ s λ t=>match t with|0=>(s',st.own.j5 s')|i+1=>σ key (i+1)) tm ((s,s',.mx (rows++[none]))::o7 key M)
   ⟨st.tm,st.own.put s' (((st.own s').q6 (σ key 0).2 none).new ⟨1,DE σ key 0 rows++[[.nil]]⟩)⟩:=by
 have hs:=h.sat.site _ _ _ e;subst hs;have r0:=GY e;generalize hF:(λ t=>match t with|0=>((σ key 0).1,st.own.j5 (σ key 0).1)|i+1=>σ key (i+1):Nat->Nat × Nat)=F;have F0:F 0=((σ key 0).1,st.own.j5 (σ key 0).1):=by rw[<-hF]
 have F1 : ∀ i,F (i+1)=σ key (i+1):=by intro i;rw[<-hF]
 have lj:DE (ET σ s F) s 0 (rows++[none])=DE σ key 0 rows++[[.nil]]:=by
  apply List.ext_getElem?;intro j;rw[IU,C9];rcases Nat.lt_trichotomy j rows.length with hj|hj|hj
  ·rw[List.getElem?_append_left hj,List.getElem?_append_left (by rw[HV];exact hj),IU]
   congr 1;funext r
   cases r with
   | none=>rfl
   | some x=>simp only[Nat.zero_add];rw[F1]
  ·subst hj
   rw[List.getElem?_append_right (Nat.le_refl _),List.getElem?_append_right (by rw[HV];exact Nat.le_refl _),HV];simp
  ·rw[List.getElem?_eq_none (by simp;omega),List.getElem?_eq_none (by simp [HV];omega)];rfl
 have Bp : ∀ j t c',c8 M j t=some c'->M5 s c'=false/\j≠s:=by
  intro j t c' g;obtain ⟨s1,c0,g1,g2,g3⟩:=PS g;obtain ⟨g4,g5⟩:=VQ hm _ _ _ g1;refine ⟨?_,g4⟩;cases t with
  | zero=>rw[g2 rfl];exact g5
  | succ i=>obtain ⟨rows,z,es,_,_,rfl⟩:=g3 i rfl;rfl
 have hg : ∀ j t c,c8 ((s,(σ key 0).1,.mx (rows++[none]))::o7 key M) j t=some c ->
   (j=s/\t=0/\c = .mx (rows++[none]))\/(j=s/\t≠0/\c8 M key t=some c)\/(j≠s/\j≠key/\c8 M j t=some c):=by
  intro j t c g;by_cases hj:j=s
  ·subst hj
   cases t with
   | zero=>rw[YU]at g;exact Or.inl ⟨rfl,rfl,(Option.some.inj g).symm⟩
   | succ t =>
    simp only[c8,c9,Nat.beq_refl,cond_true]at g;rcases Nat.lt_trichotomy t rows.length with ni|ni|ni
    ·rw[List.getElem?_append_left ni]at g
     refine Or.inr (Or.inl ⟨rfl,by omega,?_⟩);simp only[c8,e];exact g
    ·subst ni
     rw[List.getElem?_append_right (Nat.le_refl _),Nat.sub_self]at g;simp at g
    ·rw[List.getElem?_eq_none (by simp;omega)]at g;cases g
  ·rw[RT hj]at g
   obtain ⟨g1,g2⟩:=RU g;exact Or.inr (Or.inr ⟨hj,g1,g2⟩)
 refine ⟨λ j => ?_,⟨?_,?_,?_,?_,?_⟩⟩
 ·rw[jT (aL ht j)];exact h.tm j
 ·intro j s1 c g
  simp only[c9]at g;cases hb:Nat.beq j s<;>simp only[hb,cond_true,cond_false]at g
  ·rw[EC _ (IZ.1 hb)];exact h.sat.site _ _ _ (VN g).2
  ·simp only[Option.some.injEq,Prod.mk.injEq]at g
   rw[CW.1 hb,C9,F0,<-g.1]
 ·intro j t c g
  rcases hg j t c g with ⟨rfl,rfl,rfl⟩|⟨rfl,h0,g2⟩|⟨h0,h1,g2⟩
  ·rw[C9,F0]
   simp only[B6.e7,lj];simp [BC.k7,DM.new,BC.j5,DM.q6]
  ·obtain ⟨t',rfl⟩ : ∃ t',t=t'+1:=⟨t-1,by omega⟩
   rw[C9,F1];have hb:c.e7 (ET σ j F) j=c.e7 σ key:=by
    obtain ⟨_,_,_,_,g3⟩:=PS g2;obtain ⟨_,_,_,_,_,rfl⟩:=g3 t' rfl;rfl
   rw[hb];exact (YQ (λ he=>absurd (h.sat.inj _ _ _ _ _ _ g2 r0 he).2 (by omega)) (h.sat.old _ _ _ g2)).trans (h.sat.e7 _ _ _ g2)
  ·rw[EC _ h0,fU (Bp _ _ _ g2).1 h0]
   exact (YQ (λ he=>h1 (h.sat.inj _ _ _ _ _ _ g2 r0 he).1) (h.sat.old _ _ _ g2)).trans (h.sat.e7 _ _ _ g2)
 ·intro j t c g
  rcases hg j t c g with ⟨rfl,rfl,rfl⟩|⟨rfl,h0,g2⟩|⟨h0,h1,g2⟩
  ·rw[C9,F0]
   simp [BC.k7,DM.new,BC.j5,DM.q6]
  ·obtain ⟨t',rfl⟩ : ∃ t',t=t'+1:=⟨t-1,by omega⟩
   rw[C9,F1];exact Nat.lt_of_lt_of_le (h.sat.old _ _ _ g2) (YR _)
  ·rw[EC _ h0]
   exact Nat.lt_of_lt_of_le (h.sat.old _ _ _ g2) (YR _)
 ·have hold : ∀ j t c,c8 ((s,(σ key 0).1,.mx (rows++[none]))::o7 key M) j t=some c->(j=s/\t=0) \/ ∃ j0 t0 c0,c8 M j0 t0=some c0/\ET σ s F j t=σ j0 t0/\((j0=key/\t0=t/\j=s)\/(j0=j/\t0=t/\j≠key)):=by
   intro j t c g;rcases hg j t c g with ⟨rfl,rfl,rfl⟩|⟨rfl,h0,g2⟩|⟨h0,h1,g2⟩
   ·exact Or.inl ⟨rfl,rfl⟩
   ·obtain ⟨t',rfl⟩ : ∃ t',t=t'+1:=⟨t-1,by omega⟩
    exact Or.inr ⟨_,_,_,g2,by rw[C9,F1],Or.inl ⟨rfl,rfl,rfl⟩⟩
   ·exact Or.inr ⟨_,_,_,g2,by rw[EC _ h0],Or.inr ⟨rfl,rfl,h1⟩⟩
  have np : ∀ j0 t0 c0,c8 M j0 t0=some c0->ET σ s F s 0≠σ j0 t0:=by
   intro j0 t0 c0 g he;rw[C9,F0]at he;have:=h.sat.old _ _ _ g
   rw[<-he]at this;exact absurd this (Nat.lt_irrefl _)
  intro j t j' t' c c' g g' hj;rcases hold j t c g with ⟨rfl,rfl⟩|⟨j0,t0,c0,a1,a2,a3⟩<;>rcases hold j' t' c' g' with ⟨rfl,rfl⟩|⟨j1,t1,c1,b1,b2,b3⟩
  ·exact ⟨rfl,rfl⟩
  ·rw[b2]at hj;exact absurd hj (np _ _ _ b1)
  ·rw[a2]at hj;exact absurd hj.symm (np _ _ _ a1)
  ·rw[a2,b2]at hj
   obtain ⟨q1,q2⟩:=h.sat.inj _ _ _ _ _ _ a1 b1 hj;rcases a3 with ⟨x1,x2,x3⟩|⟨x1,x2,x3⟩<;>rcases b3 with ⟨y1,y2,y3⟩|⟨y1,y2,y3⟩
   ·exact ⟨x3.trans y3.symm,x2.symm.trans (q2.trans y2)⟩
   ·exact absurd (y1.symm.trans (q1.symm.trans x1)) y3
   ·exact absurd (x1.symm.trans (q1.trans y1)) x3
   ·exact ⟨x1.symm.trans (q1.trans y1),x2.symm.trans (q2.trans y2)⟩
 ·intro j t c g hw
  rcases hg j t c g with ⟨rfl,rfl,rfl⟩|⟨rfl,h0,g2⟩|⟨h0,h1,g2⟩
  ·rw[C9,F0];exact h.sat.low _ _ _ r0 rfl
  ·obtain ⟨t',rfl⟩ : ∃ t',t=t'+1:=⟨t-1,by omega⟩
   rw[C9,F1];exact h.sat.low _ _ _ g2 hw
  ·rw[EC _ h0];exact h.sat.low _ _ _ g2 hw
theorem lL {k:Nat} {v:AV} (h:UJ k v=false):V9 k v=false:=by
 cases v with
 | row j t z o n=>simp only[UJ]at h;simp only[V9,h,cond_false]
 | ptr j t a b=>simp only[UJ]at h;simp only[V9,h,cond_false]
 | _=>rfl
theorem cA {k:Nat} : ∀ {cs:List AV},OH k cs=false->U8 k cs=false
 | [],_=>rfl
 | c::r,h=>by
  simp only[OH]at h;cases h1:UJ k c<;>simp only[h1,cond_true,cond_false]at h
  ·simp only[U8,lL h1,cond_false,cA h]
  ·cases h
theorem tV {k:Nat} : ∀ {es:List (List AV)},PI k es=false->ZO k es=false
 | [],_=>rfl
 | c::r,h=>by
  simp only[PI]at h;cases h1:OH k c<;>simp only[h1,cond_true,cond_false]at h
  ·simp only[ZO,cA h1,cond_false,tV h]
  ·cases h
theorem bZ {k:Nat} {v:AV} (h:WO k v=false):X9 k v=false:=by
 cases v with
 | agg cs=>exact cA h
 | fn p f g cs=>exact cA h
 | row a b c d e=>exact lL (v := .row a b c d e) h
 | ptr a b c d=>exact lL (v := .ptr a b c d) h
 | _=>rfl
theorem tU {k:Nat} : ∀ {cs:List AV},aK k cs=false->ZN k cs=false
 | [],_=>rfl
 | c::r,h=>by
  simp only[aK]at h;cases h1:WO k c<;>simp only[h1,cond_true,cond_false]at h
  ·simp only[ZN,bZ h1,cond_false,tU h]
  ·cases h
theorem Adu {k:Nat} {v:AV} (h:UK k v=false):W7 k v=false:=by
 cases v with
 | g8 cs=>exact tU h
 | agg cs=>exact bZ (v := .agg cs) h
 | fn p f g cs=>exact bZ (v := .fn p f g cs) h
 | row a b c d e=>exact bZ (v := .row a b c d e) h
 | ptr a b c d=>exact bZ (v := .ptr a b c d) h
 | _=>rfl
theorem uA {k:Nat} : ∀ {tm:Tm},OJ k tm=false->U9 k tm=false
 | [],_=>rfl
 | (i,v)::r,h=>by
  simp only[OJ]at h;cases h1:UK k v<;>simp only[h1,cond_true,cond_false]at h
  ·simp only[U9,Adu h1,cond_false,uA h]
  ·cases h
theorem tZ {k:Nat} : ∀ {M:Mem},KP k M=false->QI k M=false
 | [],_=>rfl
 | (i,s,c)::r,h=>by
  simp only[KP]at h;cases h0:Nat.beq k i<;>simp only[h0,cond_true,cond_false]at h
  ·cases h1:M5 k c<;>simp only[h1,cond_true,cond_false]at h
   ·have:WA k c=false:=by
     cases c with
     | bx cs=>exact cA h1
     | bs z es=>exact tV h1
     | _=>rfl
    simp only[QI,this,cond_false,tZ h]
   ·cases h
  ·cases h
theorem RX.hid {M1 M2:Mem} (hm : ∀ k,c9 M1 k=c9 M2 k) (h:RX σ tm M1 st):RX σ tm M2 st:=by
 have hr : ∀ k t,c8 M1 k t=c8 M2 k t:=λ k t=>by simp only[c8,hm]
 refine ⟨h.tm,⟨λ k s c e => ?_,λ k t c e => ?_,λ k t c e => ?_,λ k t k' t' c c' e e' => ?_,λ k t c e hw => ?_⟩⟩
 ·rw[<-hm]at e;exact h.sat.site _ _ _ e
 ·rw[<-hr]at e;exact h.sat.e7 _ _ _ e
 ·rw[<-hr]at e;exact h.sat.old _ _ _ e
 ·rw[<-hr]at e e';exact h.sat.inj _ _ _ _ _ _ e e'
 ·rw[<-hr]at e;exact h.sat.low _ _ _ e hw
theorem RX.Lk (h:RX σ tm M st) {s q k2 s2 z:Nat} {es:List (List AV)} (e2:c9 M k2=some (s2,.rw z es)) (hk:s≠k2) (hm:KP s M=false) (ht:OJ s tm=false) (hq:HU q=true) :
  ∃ σ',σ' s 0=(q,st.own.j5 q)/\RX σ' tm ((s,q,.mx [some (z,es)])::o7 k2 M) ⟨st.tm,st.own.put q ((st.own q).new ⟨1,[[.row (σ k2 0).1 (σ k2 0).2 z 0 es.length]]⟩)⟩:=by
 have im:B6.flat (.mx [none]):=by
  intro i x hx;cases i with
  | zero=>simp at hx
  | succ i=>simp at hx
 have h1:=h.gp (s:=s) (q:=q) hm ht (.mx [none]) im rfl (λ_=>hq);have Aq:c9 ((s,q,.mx [none])::M) k2=some (s2,.rw z es):=by
  simp only[c9,IZ.2 (λ e=>hk e.symm),cond_false];exact e2
 have ue:QI s ((s,q,.mx [none])::M)=false:=by simp only[QI,WA,cond_false,tZ hm]
 have h2:=h1.Ce (k:=s) (s:=q) (k2:=k2) (i:=0) (rows:=[none]) (c0 := .mx [none]) (by simp [c9]) (Or.inl rfl) Aq hk (uA ht) ue (by simp);refine ⟨ET σ s (λ t=>if t=0+1 then σ k2 0 else (q,st.own.j5 q)),?_,?_⟩
 ·rw[C9];simp
 ·have hσ:(ET (ET σ s λ_=>(q,st.own.j5 q)) s λ t=>if t=0+1 then (ET σ s λ_=>(q,st.own.j5 q)) k2 0 else (ET σ s λ_=>(q,st.own.j5 q)) s t)=ET σ s (λ t=>if t=0+1 then σ k2 0 else (q,st.own.j5 q)):=by
   funext j t
   by_cases hj:j=s
   ·subst hj;rw[C9,C9];simp only[C9,EC _ (λ e=>hk e.symm)]
   ·rw[EC _ hj,EC _ hj,EC _ hj]
  rw[hσ]at h2;have hM:o7 k2 ((s,q,B6.mx [none])::M)=(s,q,.mx [none])::o7 k2 M:=by
   simp only[o7,IZ.2 (λ e=>hk e.symm),cond_false]
  rw[hM]at h2;have ho : ∀ b b':GE,(st.own.put q ((st.own q).new b)).put q (((st.own.put q ((st.own q).new b)) q).q6 (st.own.j5 q) (some b'))=st.own.put q ((st.own q).new b'):=by
   intro b b';rw[BC.lz,BC.k7];congr 1;simp only[DM.q6,DM.new,BC.j5,DM.mk.injEq,true_and];funext t'
   by_cases ni:t'=(st.own q).j5<;>simp [ni]
  have hn:(ET σ s λ_=>(q,st.own.j5 q)) s 0=(q,st.own.j5 q):=by rw[C9]
  have se:(ET σ s λ_=>(q,st.own.j5 q)) k2=σ k2:=EC _ (λ e=>hk e.symm);simp only[hn,se]at h2;rw[ho]at h2;refine RX.hid (λ k => ?_) h2;simp only[c9];cases Nat.beq k s<;>rfl
theorem RX.Hz (h:RX σ tm M st) {s key k2 ky s' s2 z:Nat} {rows:List (Option (Nat × List (List AV)))} {es:List (List AV)} (e:c9 M key=some (s',.mx rows)) (e2:c9 M k2=some (s2,.rw z es)) (hk:key≠k2) (hm:KP s M=false) (ht:OJ s tm=false) :
  RX (ET σ s λ t=>match t with|0=>(s',st.own.j5 s')|i+1=>if i=rows.length then σ k2 0 else σ key (i+1)) tm ((s,s',.mx (rows++[some (z,es)]))::o7 key (o7 k2 (o7 ky M)))
   ⟨st.tm,st.own.put s' (((st.own s').q6 (σ key 0).2 none).new ⟨1,DE σ key 0 rows++[[.row (σ k2 0).1 (σ k2 0).2 z 0 es.length]]⟩)⟩:=by
 have hs:=h.sat.site _ _ _ e;subst hs;have r0:=GY e;have r2:=GY e2;generalize hF:(λ t=>match t with|0=>((σ key 0).1,st.own.j5 (σ key 0).1)|i+1=>if i=rows.length then σ k2 0 else σ key (i+1):Nat->Nat × Nat)=F;have F0:F 0=((σ key 0).1,st.own.j5 (σ key 0).1):=by rw[<-hF]
 have F1 : ∀ i,F (i+1)=if i=rows.length then σ k2 0 else σ key (i+1):=by intro i;rw[<-hF]
 have lj:DE (ET σ s F) s 0 (rows++[some (z,es)])=DE σ key 0 rows++[[.row (σ k2 0).1 (σ k2 0).2 z 0 es.length]]:=by
  apply List.ext_getElem?;intro j;rw[IU,C9];rcases Nat.lt_trichotomy j rows.length with hj|hj|hj
  ·rw[List.getElem?_append_left hj,List.getElem?_append_left (by rw[HV];exact hj),IU]
   congr 1;funext r
   cases r with
   | none=>rfl
   | some x=>simp only[Nat.zero_add];rw[F1,if_neg (by omega)]
  ·subst hj
   rw[List.getElem?_append_right (Nat.le_refl _),List.getElem?_append_right (by rw[HV];exact Nat.le_refl _),HV];simp [F1]
  ·rw[List.getElem?_eq_none (by simp;omega),List.getElem?_eq_none (by simp [HV];omega)];rfl
 have Bp : ∀ j t c',c8 M j t=some c'->M5 s c'=false/\j≠s:=by
  intro j t c' g;obtain ⟨s1,c0,g1,g2,g3⟩:=PS g;obtain ⟨g4,g5⟩:=VQ hm _ _ _ g1;refine ⟨?_,g4⟩;cases t with
  | zero=>rw[g2 rfl];exact g5
  | succ i=>obtain ⟨rows,z,es,_,_,rfl⟩:=g3 i rfl;rfl
 have hg : ∀ j t c,c8 ((s,(σ key 0).1,.mx (rows++[some (z,es)]))::o7 key (o7 k2 (o7 ky M))) j t=some c ->
   (j=s/\t=0/\c = .mx (rows++[some (z,es)]))\/(j=s/\t=rows.length+1/\c = .rw z es)\/(j=s/\t≠0/\t≠rows.length+1/\c8 M key t=some c)\/(j≠s/\j≠key/\j≠k2/\c8 M j t=some c):=by
  intro j t c g;by_cases hj:j=s
  ·subst hj
   cases t with
   | zero=>rw[YU]at g;exact Or.inl ⟨rfl,rfl,(Option.some.inj g).symm⟩
   | succ t =>
    simp only[c8,c9,Nat.beq_refl,cond_true]at g;rcases Nat.lt_trichotomy t rows.length with ni|ni|ni
    ·rw[List.getElem?_append_left ni]at g
     refine Or.inr (Or.inr (Or.inl ⟨rfl,by omega,by omega,?_⟩));simp only[c8,e];exact g
    ·subst ni
     rw[List.getElem?_append_right (Nat.le_refl _),Nat.sub_self]at g;exact Or.inr (Or.inl ⟨rfl,rfl,(Option.some.inj g).symm⟩)
    ·rw[List.getElem?_eq_none (by simp;omega)]at g;cases g
  ·rw[RT hj]at g
   obtain ⟨g1,g2⟩:=RU g;obtain ⟨g3,g4⟩:=RU g2;obtain ⟨_,g5⟩:=RU g4;exact Or.inr (Or.inr (Or.inr ⟨hj,g1,g3,g5⟩))
 refine ⟨λ j => ?_,⟨?_,?_,?_,?_,?_⟩⟩
 ·rw[jT (aL ht j)];exact h.tm j
 ·intro j s1 c g
  simp only[c9]at g;cases hb:Nat.beq j s<;>simp only[hb,cond_true,cond_false]at g
  ·rw[EC _ (IZ.1 hb)];exact h.sat.site _ _ _ (VN (VN (VN g).2).2).2
  ·simp only[Option.some.injEq,Prod.mk.injEq]at g
   rw[CW.1 hb,C9,F0,<-g.1]
 ·intro j t c g
  rcases hg j t c g with ⟨rfl,rfl,rfl⟩|⟨rfl,rfl,rfl⟩|⟨rfl,h0,h1,g2⟩|⟨h0,h1,h2,g2⟩
  ·rw[C9,F0]
   simp only[B6.e7,lj];simp [BC.k7,DM.new,BC.j5,DM.q6]
  ·rw[C9,F1,if_pos rfl]
   exact (YQ (λ he=>hk (h.sat.inj _ _ _ _ _ _ r2 r0 he).1.symm) (h.sat.old _ _ _ r2)).trans (h.sat.e7 _ _ _ r2)
  ·obtain ⟨t',rfl⟩ : ∃ t',t=t'+1:=⟨t-1,by omega⟩
   rw[C9,F1,if_neg (by omega)];have hb:c.e7 (ET σ j F) j=c.e7 σ key:=by
    obtain ⟨_,_,_,_,g3⟩:=PS g2;obtain ⟨_,_,_,_,_,rfl⟩:=g3 t' rfl;rfl
   rw[hb];exact (YQ (λ he=>absurd (h.sat.inj _ _ _ _ _ _ g2 r0 he).2 (by omega)) (h.sat.old _ _ _ g2)).trans (h.sat.e7 _ _ _ g2)
  ·rw[EC _ h0,fU (Bp _ _ _ g2).1 h0]
   exact (YQ (λ he=>h1 (h.sat.inj _ _ _ _ _ _ g2 r0 he).1) (h.sat.old _ _ _ g2)).trans (h.sat.e7 _ _ _ g2)
 ·intro j t c g
  rcases hg j t c g with ⟨rfl,rfl,rfl⟩|⟨rfl,rfl,rfl⟩|⟨rfl,h0,h1,g2⟩|⟨h0,h1,h2,g2⟩
  ·rw[C9,F0]
   simp [BC.k7,DM.new,BC.j5,DM.q6]
  ·rw[C9,F1,if_pos rfl]
   exact Nat.lt_of_lt_of_le (h.sat.old _ _ _ r2) (YR _)
  ·obtain ⟨t',rfl⟩ : ∃ t',t=t'+1:=⟨t-1,by omega⟩
   rw[C9,F1,if_neg (by omega)];exact Nat.lt_of_lt_of_le (h.sat.old _ _ _ g2) (YR _)
  ·rw[EC _ h0]
   exact Nat.lt_of_lt_of_le (h.sat.old _ _ _ g2) (YR _)
 ·have hold : ∀ j t c,c8 ((s,(σ key 0).1,.mx (rows++[some (z,es)]))::o7 key (o7 k2 (o7 ky M))) j t=some c->(j=s/\t=0) \/ ∃ j0 t0 c0,c8 M j0 t0=some c0/\ET σ s F j t=σ j0 t0/\((j0=k2/\t0=0/\j=s/\t=rows.length+1)\/(j0=key/\t0=t/\j=s)\/(j0=j/\t0=t/\j≠key/\j≠k2)):=by
   intro j t c g;rcases hg j t c g with ⟨rfl,rfl,rfl⟩|⟨rfl,rfl,rfl⟩|⟨rfl,h0,h1,g2⟩|⟨h0,h1,h2,g2⟩
   ·exact Or.inl ⟨rfl,rfl⟩
   ·exact Or.inr ⟨_,_,_,r2,by rw[C9,F1,if_pos rfl],Or.inl ⟨rfl,rfl,rfl,rfl⟩⟩
   ·obtain ⟨t',rfl⟩ : ∃ t',t=t'+1:=⟨t-1,by omega⟩
    exact Or.inr ⟨_,_,_,g2,by rw[C9,F1,if_neg (by omega)],Or.inr (Or.inl ⟨rfl,rfl,rfl⟩)⟩
   ·exact Or.inr ⟨_,_,_,g2,by rw[EC _ h0],Or.inr (Or.inr ⟨rfl,rfl,h1,h2⟩)⟩
  have np : ∀ j0 t0 c0,c8 M j0 t0=some c0->ET σ s F s 0≠σ j0 t0:=by
   intro j0 t0 c0 g he;rw[C9,F0]at he;have:=h.sat.old _ _ _ g
   rw[<-he]at this;exact absurd this (Nat.lt_irrefl _)
  intro j t j' t' c c' g g' hj;rcases hold j t c g with ⟨rfl,rfl⟩|⟨j0,t0,c0,a1,a2,a3⟩<;>rcases hold j' t' c' g' with ⟨rfl,rfl⟩|⟨j1,t1,c1,b1,b2,b3⟩
  ·exact ⟨rfl,rfl⟩
  ·rw[b2]at hj;exact absurd hj (np _ _ _ b1)
  ·rw[a2]at hj;exact absurd hj.symm (np _ _ _ a1)
  ·rw[a2,b2]at hj
   obtain ⟨q1,q2⟩:=h.sat.inj _ _ _ _ _ _ a1 b1 hj;rcases a3 with ⟨x1,x2,x3,x4⟩|⟨x1,x2,x3⟩|⟨x1,x2,x3,x4⟩<;>rcases b3 with ⟨y1,y2,y3,y4⟩|⟨y1,y2,y3⟩|⟨y1,y2,y3,y4⟩
   ·exact ⟨x3.trans y3.symm,x4.trans y4.symm⟩
   ·exact absurd (y1.symm.trans (q1.symm.trans x1)) hk
   ·exact absurd (y1.symm.trans (q1.symm.trans x1)) y4
   ·exact absurd (x1.symm.trans (q1.trans y1)) hk
   ·exact ⟨x3.trans y3.symm,x2.symm.trans (q2.trans y2)⟩
   ·exact absurd (y1.symm.trans (q1.symm.trans x1)) y3
   ·exact absurd (x1.symm.trans (q1.trans y1)) x4
   ·exact absurd (x1.symm.trans (q1.trans y1)) x3
   ·exact ⟨x1.symm.trans (q1.trans y1),x2.symm.trans (q2.trans y2)⟩
 ·intro j t c g hw
  rcases hg j t c g with ⟨rfl,rfl,rfl⟩|⟨rfl,rfl,rfl⟩|⟨rfl,h0,h1,g2⟩|⟨h0,h1,h2,g2⟩
  ·rw[C9,F0];exact h.sat.low _ _ _ r0 rfl
  ·rw[C9,F1,if_pos rfl];exact h.sat.low _ _ _ r2 rfl
  ·obtain ⟨t',rfl⟩ : ∃ t',t=t'+1:=⟨t-1,by omega⟩
   rw[C9,F1,if_neg (by omega)];exact h.sat.low _ _ _ g2 hw
  ·rw[EC _ h0];exact h.sat.low _ _ _ g2 hw
theorem N4 (k:IntKind) (n:Int):CI σ (.int k n) = .int k n:=rfl
theorem M6 (b:Bool):CI σ (.bool b) = .bool b:=rfl
theorem OM (l:Bool) (es:List (List AV)):CI σ (.sl l es) = .sl l es:=rfl
theorem FJ (k t z o n:Nat):CI σ (.row k t z o n) = .row (σ k t).1 (σ k t).2 z o n:=rfl
theorem GQ (k t i j:Nat):CI σ (.ptr k t i j) = .ptr (σ k t).1 (σ k t).2 i j:=rfl
theorem PJ (cs:List AV):CI σ (.u7 cs) = .u7 cs:=rfl
theorem JE:CI σ .nil = .nil:=rfl
theorem OL (cs:List AV):CI σ (.agg cs) = .agg (cs.map (B8 σ)):=rfl
theorem AiC (v:Value):CI σ (.da v) = .da v:=rfl
theorem jB (p:Bool) (f g:Nat) (cs:List AV):CI σ (.fn p f g cs) = .fn p f g (cs.map (B8 σ)):=rfl
theorem O6 (cs:List AV):CI σ (.g8 cs) = .g8 (cs.map (C0 σ)):=rfl
def DS.res (own:BC):DS->AV × BC
 | .val v=>(v,own)
 | .new s b f=>(f (own.j5 s),own.put s ((own s).new b))
 | .yv s b f=>(f (own.j5 s),own.put s ((own s).new b))
 | .dt v o=>(v,o)
 | .q6 s x=>(.g8 [],own.put s x)
 | .wm s x v=>(v,own.put s x)
theorem kZ (st:St) (d:Option Nat) (E:DS):st.app d E=⟨(st.dst d (E.res st.own).1).tm,(E.res st.own).2⟩:=by
 cases E<;>cases d<;>rfl
def C1 (L:Lib) (tm:Tm) (c5:List Nat) (K:AV->Mem->Prop) (op:F5) (st:St):Prop :=
 ∃ E σ' v M',(∀ c,e8 (E2 L c) c5 st.ev st.own op=some E)/\K v M'/\(E.res st.own).1=CI σ' v/\RX σ' tm M' ⟨st.tm,(E.res st.own).2⟩
theorem C1.val {L:Lib} {c5:List Nat} {K:AV->Mem->Prop} {op:F5} (h:RX σ tm M st) (v:AV) (he : ∀ c,e8 (E2 L c) c5 st.ev st.own op=some (.val (CI σ v))) (hk:K v M):C1 L tm c5 K op st :=
 ⟨_,σ,v,M,he,hk,rfl,h⟩
variable {L:Lib} {c5:List Nat} {K:AV->Mem->Prop}
theorem Vt {x:BH} (hr:RX σ tm M st) (h:XE L tm M c5 K (.a7 x)):C1 L tm c5 K (.a7 x) st:=by
 simp only[XE]at h;obtain ⟨h1,h2⟩:=gZ h;exact C1.val hr _ (λ C=>by simp only[e8,hr.ev rfl h1]) h2
theorem Adc {s z:Nat} (hr:RX σ tm M st) (h:XE L tm M c5 K (.cn s z)):C1 L tm c5 K (.cn s z) st:=by
 simp only[XE]at h;cases iu:HU s<;>simp only[iu,cond_true,cond_false]at h;obtain ⟨k,h1,h2,h3⟩:=N7 h;refine ⟨_,_,_,_,λ C=>rfl,h3,?_,hr.gp h1 h2 (.rw z []) trivial rfl (λ_=>iu)⟩;simp only[DS.res,FJ,GQ,C9]
theorem Vu {c a b:BH} (hr:RX σ tm M st) (h:XE L tm M c5 K (.pick c a b)):C1 L tm c5 K (.pick c a b) st:=by
 simp only[XE]at h;split at h
 ·rename_i e
  obtain ⟨h1,h2⟩:=gZ h;exact C1.val hr _ (λ C=>by simp only[e8,hr.ev e (by intro e;cases e),hr.ev rfl h1,N4,M6,OM,FJ,GQ,PJ,JE,OL,O6]) h2
 ·rename_i e
  obtain ⟨h1,h2⟩:=gZ h;exact C1.val hr _ (λ C=>by simp only[e8,hr.ev e (by intro e;cases e),hr.ev rfl h1,N4,M6,OM,FJ,GQ,PJ,JE,OL,O6]) h2
 ·exact h.elim
theorem AgW {op:BinOp} {k k':IntKind} {a b:Int} {v:AV} (h:FH op k a k' b=some v):CI σ v=v:=by
 cases op<;>simp only[FH]at h<;>split at h<;>first|(obtain rfl:=Option.some.inj h;rfl)|cases h
theorem Ahm {k k':IntKind} (h:kq k k'=true):k=k':=by simpa [kq] using h
theorem Ado {op:BinOp} {k k':IntKind} {a b:Int} {K:AV->Prop} (h:lE op k a k' b K) : ∃ v,FH op k a k' b=some v/\K v:=by
 have key : ∀ (p q:Prop) [Decidable p] (A B:Prop) (c:Bool),(¬ p->q)->A8 p q A B->(p/\A)\/(¬ p/\B):=by
  intro p q _ A B _ hq hc;by_cases hp:p
  ·exact Or.inl ⟨hp,hc.1 hp⟩
  ·exact Or.inr ⟨hp,hc.2 (hq hp)⟩
 cases op;all_goals try (exact h)
 all_goals (
  simp only[lE]at h;cases hk:kq k k'<;>simp only[hk,cond_true,cond_false]at h;obtain rfl:=Ahm hk;simp only[FH,if_true])
 ·rcases key (a=b) _ _ _ true (λ e=>e) h with ⟨h1,h2⟩|⟨h1,h2⟩
  ·exact ⟨_,rfl,by rw[show (a == b)=true by simpa using h1];exact h2⟩
  ·exact ⟨_,rfl,by rw[show (a == b)=false by simpa using h1];exact h2⟩
 ·rcases key (a≠b) _ _ _ true (λ e=>by omega) h with ⟨h1,h2⟩|⟨h1,h2⟩
  ·exact ⟨_,rfl,by rw[show (a != b)=true by simpa using h1];exact h2⟩
  ·exact ⟨_,rfl,by rw[show (a != b)=false by simpa using h1];exact h2⟩
 ·rcases key (a<b) _ _ _ true (λ e=>by omega) h with ⟨h1,h2⟩|⟨h1,h2⟩
  ·exact ⟨_,rfl,by simpa [h1] using h2⟩
  ·exact ⟨_,rfl,by simpa [h1] using h2⟩
 ·rcases key (a<=b) _ _ _ true (λ e=>by omega) h with ⟨h1,h2⟩|⟨h1,h2⟩
  ·exact ⟨_,rfl,by simpa [h1] using h2⟩
  ·exact ⟨_,rfl,by simpa [h1] using h2⟩
 ·rcases key (b<a) _ _ _ true (λ e=>by omega) h with ⟨h1,h2⟩|⟨h1,h2⟩
  ·exact ⟨_,rfl,by simpa [h1] using h2⟩
  ·exact ⟨_,rfl,by simpa [h1] using h2⟩
 ·rcases key (b<=a) _ _ _ true (λ e=>by omega) h with ⟨h1,h2⟩|⟨h1,h2⟩
  ·exact ⟨_,rfl,by simpa [h1] using h2⟩
  ·exact ⟨_,rfl,by simpa [h1] using h2⟩
theorem Xb {op:BinOp} {x y:BH} (hr:RX σ tm M st) (h:XE L tm M c5 K (.bin op x y)):C1 L tm c5 K (.bin op x y) st:=by
 simp only[XE]at h;split at h
 ·rename_i k a k' b e1 e2
  obtain ⟨v,hv,hk⟩:=Ado h;exact C1.val hr v (λ C=>by
   simp only[e8,hr.ev e1 (by intro e;cases e),hr.ev e2 (by intro e;cases e),N4,M6,OM,FJ,GQ,PJ,JE,OL,O6,hv,Option.map_some];exact congrArg some (congrArg DS.val (AgW (σ:=σ) hv).symm)) hk
 ·exact h.elim
theorem Ww {ne:Bool} {x y:BH} (hr:RX σ tm M st) (h:XE L tm M c5 K (.beq ne x y)):C1 L tm c5 K (.beq ne x y) st:=by
 simp only[XE]at h;split at h
 ·rename_i a b e1 e2
  rw[WD]at h;exact C1.val hr _ (λ C=>by
   simp only[e8,hr.ev e1 (by intro e;cases e),hr.ev e2 (by intro e;cases e),N4,M6,OM,FJ,GQ,PJ,JE,OL,O6];cases ne<;>rfl) h
 ·exact h.elim
theorem oS : ∀ {cs:List AV} {a:List Int},NV cs=some a->cs.map (B8 σ)=cs
 | [],_,_=>rfl
 | c::r,a,h=>by
  cases c with
  | int k n =>
   cases k<;>simp only[NV]at h<;>first|cases h|skip
   cases hr:NV r with
   | none=>rw[hr]at h;cases h
   | some b=>rw[List.map_cons,oS hr];rfl
  | _=>simp only[NV]at h;cases h
theorem Wi {ne:Bool} {n:Nat} {x y:BH} (hr:RX σ tm M st) (h:XE L tm M c5 K (.oa ne n x y)):C1 L tm c5 K (.oa ne n x y) st:=by
 simp only[XE]at h;split at h
 ·rename_i cs ds e1 e2
  obtain ⟨a,b,h1,h2,h3,h4,h⟩:=h;rw[WD]at h;exact C1.val hr _ (λ C=>by
   simp only[e8,hr.ev e1 (by intro e;cases e),hr.ev e2 (by intro e;cases e),OL,oS h1,oS h2,h1,h2];rw[if_pos ⟨h3,h4⟩];cases ne<;>rfl) h
 ·exact h.elim
theorem Adb {op:UnOp} {x:BH} (hr:RX σ tm M st) (h:XE L tm M c5 K (.un op x)):C1 L tm c5 K (.un op x) st:=by
 simp only[XE]at h;split at h
 ·rename_i k n e1
  obtain ⟨v,hv,hk⟩:=h;refine C1.val hr v (λ C => ?_) hk;simp only[e8,hr.ev e1 (by intro e;cases e),N4,M6,OM,FJ,GQ,PJ,JE,OL,O6,hv,Option.map_some];cases op<;>simp only[XX,Option.some.injEq,reduceCtorEq]at hv<;>subst hv<;>rfl
 ·rename_i b e1
  split at h
  ·rw[WD]at h
   exact C1.val hr _ (λ C=>by simp only[e8,hr.ev e1 (by intro e;cases e),N4,M6,OM,FJ,GQ,PJ,JE,OL,O6,XX,Option.map_some]) h
  ·exact h.elim
 ·exact h.elim
theorem Xm {k:IntKind} {x:BH} (hr:RX σ tm M st) (h:XE L tm M c5 K (.conv k x)):C1 L tm c5 K (.conv k x) st:=by
 simp only[XE]at h;split at h
 ·rename_i k' n e1
  exact C1.val hr _ (λ C=>by simp only[e8,hr.ev e1 (by intro e;cases e),N4,M6,OM,FJ,GQ,PJ,JE,OL,O6]) h.h
 ·exact h.elim
theorem Xe {s:Nat} {x:BH} (hr:RX σ tm M st) (h:XE L tm M c5 K (.box s x)):C1 L tm c5 K (.box s x) st:=by
 simp only[XE]at h;obtain ⟨h0,cs,hc,h⟩:=gY h;obtain ⟨k,h1,h2,h3⟩:=N7 h;refine ⟨.new s (B6.e7 σ k (.bx cs)) (λ t => .ptr s t 0 0),_,_,_,λ C => ?_,h3,?_,hr.gp h1 h2 (.bx cs) trivial (Mq (xI h2 x) hc) (λ h=>nomatch h)⟩
 ·simp only[e8,hr.ev rfl h0,U7 hc,List.length_map,B6.e7]
 ·simp only[DS.res,FJ,GQ,C9]
theorem Wj {s:Nat} {z:List AV} (hr:RX σ tm M st) (h:XE L tm M c5 K (.alloc s z)):C1 L tm c5 K (.alloc s z) st:=by
 simp only[XE]at h;cases hd:GH z<;>simp only[hd,cond_true,cond_false]at h;obtain ⟨k,h1,h2,h3⟩:=N7 h;refine ⟨.new s (B6.e7 σ k (.bx z)) (λ t => .ptr s t 0 0),_,_,_,λ C => ?_,h3,?_,hr.gp h1 h2 (.bx z) trivial (mF hd) (λ h=>nomatch h)⟩
 ·simp only[e8,B6.e7,PE hd]
 ·simp only[DS.res,FJ,GQ,C9]
theorem iP {cs ds:List AV} {off n:Nat} (h:part cs off n=some ds):part (cs.map (B8 σ)) off n=some (ds.map (B8 σ)):=by
 simp only[part]at h ⊢;split at h
 ·rename_i hl
  rw[if_pos (by simpa using hl)];obtain rfl:=Option.some.inj h;rw[List.map_take,List.map_drop]
 ·cases h
theorem xK {v:AV} {K:AV->Prop} (h:fF v K):v ≠ .any/\CI σ v=B8 σ v/\K v:=by
 cases v<;>simp only[fF]at h<;>first|exact h.elim|exact ⟨(by intro e;cases e),rfl,h⟩
theorem XM (σ:IY) {agg:Bool} {ds:List AV} {K:AV->Prop} (h:qk agg ds K) : ∃ v,QP agg (ds.map (B8 σ))=some (CI σ v)/\K v:=by
 cases agg
 ·simp only[qk]at h
  split at h
  ·rename_i c
   obtain ⟨_,h1,h2⟩:=xK (σ:=σ) h;exact ⟨c,by rw[h1];rfl,h2⟩
  ·exact h.elim
 ·exact ⟨.agg ds,rfl,h⟩
theorem Pz {cs vs:List AV} {j:Nat}:(splice cs j vs).map (B8 σ)=splice (cs.map (B8 σ)) j (vs.map (B8 σ)):=by
 simp only[splice,List.map_append,List.map_take,List.map_drop,List.length_map]
theorem xU (hr:RX σ tm M st) : ∀ {ps:List (Nat × Nat × BH)} {cells:List AV} {K:List AV->Prop},nX tm ps cells K -> ∃ cs,fill (cells.map (B8 σ)) (ps.map λ p=>(p.1,p.2.1,st.ev p.2.2))=some (cs.map (B8 σ))/\K cs
 | [],cells,K,h=>⟨cells,rfl,h⟩
 | p::r,cells,K,h=>by
  obtain ⟨h0,vs,hc,h⟩:=gY (show fC (ex tm p.2.2) λ vs=>bif Nat.beq vs.length p.2.1 then bif Nat.ble (p.1+p.2.1) cells.length then fL (splice cells p.1 vs) λ cells=>nX tm r cells K else False else False from h);cases hz:Nat.beq vs.length p.2.1<;>simp only[hz,cond_true,cond_false]at h;have hl:Nat.ble (p.1+p.2.1) cells.length=true:=by
   cases hl:Nat.ble (p.1+p.2.1) cells.length
   ·rw[hl]at h;exact h.elim
   ·rfl
  rw[hl]at h;simp only[cond_true,NU]at h;obtain ⟨cs,h1,h2⟩:=xU hr h;refine ⟨cs,?_,h2⟩;simp only[List.map_cons,fill,hr.ev rfl h0,U7 hc,List.length_map];rw[if_pos ⟨CW.1 hz,Nat.le_of_ble_eq_true hl⟩,<-Pz];exact h1
theorem Xi {z:List AV} {ps:List (Nat × Nat × BH)} (hr:RX σ tm M st) (h:XE L tm M c5 K (.build z ps)):C1 L tm c5 K (.build z ps) st:=by
 simp only[XE]at h;cases hd:GH z<;>simp only[hd,cond_true,cond_false]at h;obtain ⟨cs,h1,h2⟩:=xU hr h;refine C1.val hr (.agg cs) (λ C => ?_) h2;rw[PE hd]at h1;simp only[e8,h1];rfl
theorem xG : ∀ l:List BH,XC tm l=l.map (ex tm)
 | []=>rfl
 | x::r=>by rw[XC,xG r];rfl
theorem uV : ∀ {es:List (List AV)},cM es=true -> ∀ e∈es,GH e=true
 | e0::r,h,e,he=>by
  simp only[cM]at h;cases h1:GH e0<;>simp only[h1,cond_true,cond_false]at h
  ·cases h
  ·rcases List.mem_cons.1 he with rfl|he
   ·exact h1
   ·exact uV h e he
theorem AdZ {es:List (List AV)} (h : ∀ e∈es,GH e=true):(es.map λ cs=>cs.map (B8 σ))=es:=by
 conv=>rhs;rw[<-List.map_id es]
 exact List.map_congr_left λ e he=>PE (h e he)
theorem oZ {es:List (List AV)} {K:Nat->Prop} (h:dJ es K):K es.length:=by
 unfold dJ at h;split at h<;>exact h
theorem tM (hr:RX σ tm M st) {z:Nat} : ∀ {l:List BH} {K:List (List AV)->Prop},lI tm z l K -> ∃ es,l.mapM (λ x=>cellsOf (st.ev x))=some (es.map λ cs=>cs.map (B8 σ))/\(∀ e∈es,e.length=z)/\(∀ k,OJ k tm=false->PI k es=false)/\K es
 | [],K,h=>⟨[],rfl,(λ e he=>by cases he),λ_ _=>rfl,h⟩
 | x::r,K,h=>by
  obtain ⟨h0,cs,hc,h⟩:=gY (show fC (ex tm x) λ cs=>bif Nat.beq cs.length z then lI tm z r λ es=>K (cs::es) else False from h);cases hz:Nat.beq cs.length z<;>simp only[hz,cond_true,cond_false]at h;obtain ⟨es,h1,h2,h4,h3⟩:=tM hr h;refine ⟨cs::es,?_,λ e he => ?_,λ k hk => ?_,h3⟩
  ·rw[List.mapM_cons,h1,hr.ev rfl h0,U7 hc];rfl
  ·rcases List.mem_cons.1 he with rfl|he
   ·exact CW.1 hz
   ·exact h2 e he
  ·simp only[PI,Mq (xI hk x) hc,cond_false,h4 k hk]
theorem evL (hr:RX σ tm M st) {xs:List BH} (h : ∀ v∈XC tm xs,v ≠ .any):xs.map st.ev=(XC tm xs).map (CI σ):=by
 rw[xG]at h ⊢;rw[List.map_map];exact List.map_congr_left λ x hx=>hr.ev rfl (h _ (List.mem_map_of_mem hx))
theorem Xf {s z:Nat} {ps:List BH} (hr:RX σ tm M st) (h:XE L tm M c5 K (.e5 s z ps)):C1 L tm c5 K (.e5 s z ps) st:=by
 simp only[XE]at h;cases iu:HU s<;>simp only[iu,cond_true,cond_false]at h;obtain ⟨es,g1,g2,g3,h⟩:=tM hr h;obtain ⟨k,h1,h2,h3⟩:=N7 (oZ h);have key : ∀ c:B6,c.flat->M5 k c=false->c.e7 σ k=⟨z,es.map λ cs=>cs.map (B8 σ)⟩->K (.row k 0 z 0 es.length) ((k,s,c)::M)->C1 L tm c5 K (.e5 s z ps) st:=by
  intro c hf hc hb hk;refine ⟨.new s (c.e7 σ k) (λ t => .row s t z 0 es.length),_,_,_,λ C => ?_,hk,?_,hr.gp h1 h2 c hf hc (λ_=>iu)⟩
  ·simp only[e8,g1,hb]
   rw[if_pos (λ e he=>by obtain ⟨e',iw,rfl⟩:=List.mem_map.1 he;simpa using g2 e' iw)];simp only[List.length_map]
  ·simp only[DS.res,FJ,C9]
 cases hd:cM es<;>simp only[hd,cond_true,cond_false]at h3
 ·exact key (.bs z es) trivial (g3 k h2) rfl h3
 ·exact key (.rw z es) trivial rfl (by simp only[B6.e7];rw[AdZ (uV hd)]) h3
theorem Xp {x:BH} {off:Nat} (hr:RX σ tm M st) (h:XE L tm M c5 K (.a5 x off)):C1 L tm c5 K (.a5 x off) st:=by
 simp only[XE]at h;split at h
 ·rename_i key t i j e
  exact C1.val hr _ (λ C=>by simp only[e8,hr.ev e (by intro e;cases e),N4,M6,OM,FJ,GQ,PJ,JE,OL,O6]) h
 ·rename_i cs e
  rw[NU]at h;exact C1.val hr _ (λ C=>by simp only[e8,hr.ev e (by intro e;cases e),N4,M6,OM,FJ,GQ,PJ,JE,OL,O6]) h
 ·exact h.elim
theorem Xq {x:BH} {off n:Nat} {agg:Bool} (hr:RX σ tm M st) (h:XE L tm M c5 K (.oi x off n agg)):C1 L tm c5 K (.oi x off n agg) st:=by
 simp only[XE]at h;split at h
 ·rename_i cs e
  split at h
  ·rename_i ds hp
   rw[NU]at h;obtain ⟨v,h1,h2⟩:=XM σ h;exact C1.val hr v (λ C=>by simp only[e8,hr.ev e (by intro e;cases e),OL,iP hp,h1,Option.map_some]) h2
  ·exact h.elim
 ·exact h.elim
theorem Xv {arr:Option Nat} {z:Nat} {x i:BH} (hr:RX σ tm M st) (h:XE L tm M c5 K (.a9 arr z x i)):C1 L tm c5 K (.a9 arr z x i) st:=by
 simp only[XE]at h;split at h
 ·rename_i kd n e1
  split at h
  ·rename_i len key t i' j e2
   obtain ⟨h1,h2⟩:=h;exact C1.val hr _ (λ C=>by simp only[e8,hr.ev e1 (by intro e;cases e),hr.ev e2 (by intro e;cases e),N4,M6,OM,FJ,GQ,PJ,JE,OL,O6];rw[if_pos h1]) h2
  ·rename_i len cs e2
   obtain ⟨h1,h2⟩:=h;rw[NU]at h2;exact C1.val hr _ (λ C=>by simp only[e8,hr.ev e1 (by intro e;cases e),hr.ev e2 (by intro e;cases e),N4,M6,OM,FJ,GQ,PJ,JE,OL,O6];rw[if_pos h1]) h2
  ·rename_i key t z' off len e2
   cases hz:Nat.beq z' z<;>simp only[hz,cond_true,cond_false]at h;obtain ⟨h1,h2⟩:=h;exact C1.val hr _ (λ C=>by simp only[e8,hr.ev e1 (by intro e;cases e),hr.ev e2 (by intro e;cases e),N4,M6,OM,FJ,GQ,PJ,JE,OL,O6];rw[if_pos ⟨h1.1,h1.2,CW.1 hz⟩]) h2
  ·rename_i q es e2
   obtain ⟨h1,cs,h2,h3,h4⟩:=h;exact C1.val hr _ (λ C=>by simp only[e8,hr.ev e1 (by intro e;cases e),hr.ev e2 (by intro e;cases e),N4,M6,OM,FJ,GQ,PJ,JE,OL,O6,h2];rw[if_pos h1,if_pos h3]) h4
  ·exact h.elim
 ·exact h.elim
theorem aG {s:Nat} {own:BC} : ∀ {c5:List Nat},XN s c5=true->own.n6 c5 s=own s
 | [],_=>rfl
 | b::r,h=>by
  have hm:WJ s (b::r)=false:=by simpa [XN] using h
  have : ∀ l:List Nat,WJ s l=false->own.n6 l s=own s:=by
   intro l;induction l with
   | nil=>intro _;rfl
   | cons b r ih =>
    intro h;simp only[WJ]at h;cases hb:Nat.beq s b<;>simp only[hb,cond_true,cond_false]at h
    ·simp only[BC.n6]
     rw[if_neg (IZ.1 hb)];exact ih h
    ·cases h
  exact this _ hm
theorem pP {s:Nat} {own:BC} (hs:HU s=true) : ∀ {c5:List Nat},YW c5=true->own.n6 c5 s=own s
 | [],_=>rfl
 | b::r,h=>by
  simp only[YW]at h;cases hb:HU b<;>simp only[hb,cond_true,cond_false]at h
  ·have m7:s≠b:=λ e=>by rw[e,hb]at hs;cases hs
   show (if s=b then _ else own.n6 r s)=own s;rw[if_neg m7];exact pP hs h
  ·cases h
theorem Vo {agg:Bool} {n:Nat} {x:BH} (hr:RX σ tm M st) (h:XE L tm M c5 K (.ld agg n x)):C1 L tm c5 K (.ld agg n x) st:=by
 simp only[XE]at h;split at h
 ·rename_i key t i j e
  split at h
  ·rename_i s c hm
   have hs:=hr.sat.site _ _ _ hm;split at h
   ·cases hb:XN s c5<;>simp only[hb,cond_true,cond_false]at h
    have az:=hr.sat.e7 _ _ _ (GY hm);rw[hs]at az;split at h
    ·rename_i cs
     cases hi:Nat.beq i 0<;>simp only[hi,cond_true,cond_false]at h;obtain rfl:=CW.1 hi;split at h
     ·rename_i ds hp
      rw[NU]at h;obtain ⟨v,h1,h2⟩:=XM σ h;exact C1.val hr v (λ C=>by
       simp only[e8,hr.ev e (by intro e;cases e),GQ,BC.pd,BC.get,hs];rw[aG hb,az];simp only[B6.e7,List.getElem?_cons_zero,iP hp,h1,Option.map_some]) h2
     ·exact h.elim
    ·rename_i z es
     obtain ⟨cs,ds,g1,g2,h⟩:=h;rw[NU]at h;cases hd:GH ds<;>simp only[hd,cond_true,cond_false]at h;obtain ⟨v,h1,h2⟩:=XM σ h;rw[PE hd]at h1;exact C1.val hr v (λ C=>by
      simp only[e8,hr.ev e (by intro e;cases e),GQ,BC.pd,BC.get,hs];rw[aG hb,az];simp only[B6.e7,g1,g2,h1,Option.map_some]) h2
    ·rename_i z es
     split at h
     ·rename_i cs g1
      split at h
      ·rename_i ds hp
       rw[NU]at h;obtain ⟨v,h1,h2⟩:=XM σ h;exact C1.val hr v (λ C=>by
        simp only[e8,hr.ev e (by intro e;cases e),GQ,BC.pd,BC.get,hs];rw[aG hb,az];simp only[B6.e7,List.getElem?_map,g1,Option.map_some,iP hp,h1]) h2
      ·exact h.elim
     ·exact h.elim
    ·rename_i rows
     cases hj:Nat.beq j 0<;>simp only[hj,cond_true,cond_false]at h;cases hn:Nat.beq n 1<;>simp only[hn,cond_true,cond_false]at h;obtain rfl:=CW.1 hj;obtain rfl:=CW.1 hn;obtain ⟨r,g1,h⟩:=h;have fin : ∀ c:AV,(DE σ key 0 rows)[i]? = some [B8 σ c]->qk agg [c] (λ v=>K v M)->C1 L tm c5 K (.ld agg 1 x) st:=by
      intro c hc h;obtain ⟨v,h1,h2⟩:=XM σ h;have hp:part [B8 σ c] 0 1=some [B8 σ c]:=by simp [part]
      exact C1.val hr v (λ C=>by
       simp only[e8,hr.ev e (by intro e;cases e),GQ,BC.pd,BC.get,hs];rw[aG hb,az];simp only[B6.e7,hc,hp];simp only[List.map_cons,List.map_nil]at h1;simp only[h1,Option.map_some]) h2
     split at h
     ·rename_i z es
      exact fin _ (by rw[IU,g1];simp [B8]) h
     ·exact fin _ (by rw[IU,g1];simp [B8]) h
    ·exact h.elim
    ·exact h.elim
   ·rename_i i'
    split at h
    ·rename_i rows
     obtain ⟨z,es,g0,cs,ds,g1,g2,h⟩:=h;rw[NU]at h;cases hd:GH ds<;>simp only[hd,cond_true,cond_false]at h;obtain ⟨v,h1,h2⟩:=XM σ h;rw[PE hd]at h1;have az:=hr.sat.e7 key (i'+1) (.rw z es) (by simp [c8,hm,g0]);exact C1.val hr v (λ C=>by
      simp only[e8,hr.ev e (by intro e;cases e),GQ,BC.pd,BC.get,BC.n6];rw[az];simp only[B6.e7,g1,g2,h1,Option.map_some]) h2
    ·rename_i rows b r
     cases hb:YW (b::r)<;>simp only[hb,cond_true,cond_false]at h;obtain ⟨z,es,g0,cs,ds,g1,g2,h⟩:=h;rw[NU]at h;cases hd:GH ds<;>simp only[hd,cond_true,cond_false]at h;obtain ⟨v,h1,h2⟩:=XM σ h;rw[PE hd]at h1;have g':c8 M key (i'+1)=some (.rw z es):=by simp [c8,hm,g0]
     have az:=hr.sat.e7 key (i'+1) (.rw z es) g';have iu:=hr.sat.low key (i'+1) _ g' rfl;exact C1.val hr v (λ C=>by
      simp only[e8,hr.ev e (by intro e;cases e),GQ,BC.pd,BC.get];rw[pP iu hb,az];simp only[B6.e7,g1,g2,h1,Option.map_some]) h2
    ·exact h.elim
  ·exact h.elim
 ·rename_i cs e
  split at h
  ·rename_i ds hp
   rw[NU]at h;cases hd:GH ds<;>simp only[hd,cond_true,cond_false]at h;obtain ⟨v,h1,h2⟩:=XM σ h;rw[PE hd]at h1;exact C1.val hr v (λ C=>by simp only[e8,hr.ev e (by intro e;cases e),PJ,hp,h1,Option.map_some]) h2
  ·exact h.elim
 ·exact h.elim
theorem sT {n:Nat} {x v:BH} (hr:RX σ tm M st) (h:XE L tm M c5 K (.st n x v)):C1 L tm c5 K (.st n x v) st:=by
 simp only[XE,rD]at h;split at h
 ·rename_i key t i j e
  obtain ⟨h0,vs,hc,h5⟩:=gY h;clear h;cases hn:Nat.beq vs.length n<;>simp only[hn,cond_true,cond_false]at h5;have qj:=CW.1 hn;split at h5
  ·rename_i s c hm
   have hs:=hr.sat.site _ _ _ hm;split at h5
   ·have az:=hr.sat.e7 _ _ _ (GY hm)
    rw[hs]at az;split at h5
    ·rename_i cs
     cases hi:Nat.beq i 0<;>simp only[hi,cond_true,cond_false]at h5;obtain rfl:=CW.1 hi;have hl:Nat.ble (j+vs.length) cs.length=true:=by
      cases hl:Nat.ble (j+vs.length) cs.length
      ·rw[hl]at h5;exact h5.elim
      ·rfl
     rw[hl]at h5;simp only[cond_true,NU]at h5;refine ⟨.dt (.g8 []) (st.own.put s ((st.own s).q6 (σ key 0).2 (some (B6.e7 σ key (.bx (splice cs j vs)))))),σ,_,_,λ C => ?_,h5,rfl,hr.Lr hm trivial _ trivial (λ h=>nomatch h)⟩;simp only[e8,hr.ev e (by intro e;cases e),GQ,hr.ev rfl h0,U7 hc,List.length_map];rw[if_pos qj];simp only[BC.ma,BC.get,hs,az,B6.e7,List.getElem?_cons_zero,List.length_map];rw[if_pos (Nat.le_of_ble_eq_true hl)];simp only[Option.map_some,List.set_cons_zero,Pz];have:(splice cs j vs).length=cs.length:=by
      have:=Nat.le_of_ble_eq_true hl
      simp only[splice,List.length_append,List.length_take,List.length_drop];omega
     rw[this]
    ·rename_i z es
     cases hd:GH vs<;>simp only[hd,cond_true,cond_false]at h5;obtain ⟨cs,g1,g2,h5⟩:=h5;refine ⟨.dt (.g8 []) (st.own.put s ((st.own s).q6 (σ key 0).2 (some (B6.e7 σ key (.rw z (es.set i (splice cs j vs))))))),σ,_,_,λ C => ?_,h5,rfl,hr.Lr hm trivial _ trivial (λ_=>rfl)⟩;simp only[e8,hr.ev e (by intro e;cases e),GQ,hr.ev rfl h0,U7 hc,PE hd];rw[if_pos qj];simp only[BC.ma,BC.get,hs,az,B6.e7,g1];rw[if_pos g2];rfl
    ·exact h5.elim
    ·rename_i rows
     split at h5
     ·rename_i y7 z m
      cases kb:Nat.beq key y7<;>simp only[kb,cond_true,cond_false]at h5;cases dm:U9 key tm<;>simp only[dm,cond_true,cond_false]at h5;cases ue:QI key M<;>simp only[ue,cond_true,cond_false]at h5;cases hj:Nat.beq j 0<;>simp only[hj,cond_true,cond_false]at h5;obtain rfl:=CW.1 hj;split at h5
      ·rename_i s2 z' es je
       cases hz:Nat.beq z z'<;>simp only[hz,cond_true,cond_false]at h5;obtain rfl:=CW.1 hz;rw[VH]at h5;obtain ⟨rfl,hi,h5⟩:=h5;have hlen:(DE σ key 0 rows)[i]? = some ((DE σ key 0 rows)[i]'(by rw[HV];exact hi)):=zE _;have ln:((DE σ key 0 rows)[i]'(by rw[HV];exact hi)).length=1:=by
        have:=IU (σ:=σ) (k:=key) rows 0 i
        rw[hlen,zE hi]at this;simp only[Option.map_some,Option.some.injEq]at this;rw[this];split<;>rfl
       refine ⟨.dt (.g8 []) (st.own.put s ((st.own s).q6 (σ key 0).2 (some ⟨1,(DE σ key 0 rows).set i [.row (σ y7 0).1 (σ y7 0).2 z 0 es.length]⟩))),_,_,_,λ C => ?_,h5,rfl,hr.Ce hm (Or.inl rfl) je (IZ.1 kb) dm ue hi⟩;simp only[e8,hr.ev e (by intro e;cases e),GQ,hr.ev rfl h0,U7 hc,List.length_map];rw[if_pos qj];simp only[BC.ma,BC.get,hs,az,B6.e7,hlen,List.map_cons,List.map_nil,List.length_cons,List.length_nil,B8];rw[if_pos (by omega)];simp only[Option.map_some];have Br:splice ((DE σ key 0 rows)[i]'(by rw[HV];exact hi)) 0 [.row (σ y7 0).1 (σ y7 0).2 z 0 es.length]=[.row (σ y7 0).1 (σ y7 0).2 z 0 es.length]:=by
        simp only[splice,List.take_zero,List.nil_append,List.length_cons,List.length_nil,Nat.zero_add];rw[List.drop_of_length_le (by omega)];rfl
       rw[Br]
      ·exact h5.elim
     ·rename_i y7 t2 z m
      cases kb:Nat.beq key y7<;>simp only[kb,cond_true,cond_false]at h5;cases hj:Nat.beq j 0<;>simp only[hj,cond_true,cond_false]at h5;obtain rfl:=CW.1 hj;obtain rfl:=CW.1 kb;obtain ⟨z',es,g0,h5⟩:=h5;cases hz:Nat.beq z z'<;>simp only[hz,cond_true,cond_false]at h5;obtain rfl:=CW.1 hz;obtain ⟨⟨rfl,hi⟩,h5⟩:=h5;have s8:B6.e7 σ key (.vw ((List.range rows.length).set i t2) rows)=⟨1,(DE σ key 0 rows).set i [.row (σ key (t2+1)).1 (σ key (t2+1)).2 z 0 es.length]⟩:=by
       simp only[B6.e7];congr 1;apply List.ext_getElem?;intro p;rw[List.getElem?_map];by_cases hp:i=p
       ·subst hp
        rw[List.getElem?_set_self (by rw[List.length_range];exact hi),List.getElem?_set_self (by rw[HV];exact hi),Option.map_some,IU,g0];simp
       ·rw[List.getElem?_set_ne hp,List.getElem?_set_ne hp,IU]
        by_cases Cx:p<rows.length
        ·rw[List.getElem?_range Cx,Option.map_some,IU,zE Cx,Option.map_some,Option.getD_some]
        ·rw[List.getElem?_eq_none (by rw[List.length_range];omega),List.getElem?_eq_none (by omega)];rfl
      have hv:=hr.view (w:=(List.range rows.length).set i t2) hm (Or.inl rfl);have hlen:(DE σ key 0 rows)[i]? = some ((DE σ key 0 rows)[i]'(by rw[HV];exact hi)):=zE _;have ln:((DE σ key 0 rows)[i]'(by rw[HV];exact hi)).length=1:=by
       have:=IU (σ:=σ) (k:=key) rows 0 i
       rw[hlen,zE hi]at this;simp only[Option.map_some,Option.some.injEq]at this;rw[this];split<;>rfl
      refine ⟨.dt (.g8 []) (st.own.put s ((st.own s).q6 (σ key 0).2 (some (B6.e7 σ key (.vw ((List.range rows.length).set i t2) rows))))),_,_,_,λ C => ?_,h5,rfl,hv⟩;rw[s8];simp only[e8,hr.ev e (by intro e;cases e),GQ,hr.ev rfl h0,U7 hc,List.length_map];rw[if_pos qj];simp only[BC.ma,BC.get,hs,az,B6.e7,hlen,List.map_cons,List.map_nil,List.length_cons,List.length_nil,B8];rw[if_pos (by omega)];simp only[Option.map_some];have Br:splice ((DE σ key 0 rows)[i]'(by rw[HV];exact hi)) 0 [.row (σ key (t2+1)).1 (σ key (t2+1)).2 z 0 es.length]=[.row (σ key (t2+1)).1 (σ key (t2+1)).2 z 0 es.length]:=by
       simp only[splice,List.take_zero,List.nil_append,List.length_cons,List.length_nil,Nat.zero_add];rw[List.drop_of_length_le (by omega)];rfl
      rw[Br]
     ·exact h5.elim
    ·rename_i i0 v0 rows
     split at h5
     ·rename_i y7 z m
      cases kb:Nat.beq key y7<;>simp only[kb,cond_true,cond_false]at h5;cases dm:U9 key tm<;>simp only[dm,cond_true,cond_false]at h5;cases ue:QI key M<;>simp only[ue,cond_true,cond_false]at h5;cases hj:Nat.beq j 0<;>simp only[hj,cond_true,cond_false]at h5;obtain rfl:=CW.1 hj;split at h5
      ·rename_i s2 z' es je
       cases hz:Nat.beq z z'<;>simp only[hz,cond_true,cond_false]at h5;obtain rfl:=CW.1 hz;rw[VH]at h5;obtain ⟨⟨rfl,rfl⟩,hi,h5⟩:=h5;refine ⟨.dt (.g8 []) (st.own.put s ((st.own s).q6 (σ key 0).2 (some ⟨1,(DE σ key 0 rows).set i [.row (σ y7 0).1 (σ y7 0).2 z 0 es.length]⟩))),_,_,_,λ C => ?_,h5,rfl,hr.Ce hm (Or.inr ⟨v0,rfl⟩) je (IZ.1 kb) dm ue hi⟩;simp only[e8,hr.ev e (by intro e;cases e),GQ,hr.ev rfl h0,U7 hc,List.length_map];rw[if_pos qj];simp only[BC.ma,BC.get,hs,az,B6.e7,List.getElem?_set_self (show i<(DE σ key 0 rows).length by rw[HV];exact hi),List.map_cons,List.map_nil,List.length_cons,List.length_nil,B8];rw[if_pos (by omega)];simp only[Option.map_some,List.set_set];rfl
      ·exact h5.elim
     ·exact h5.elim
    ·rename_i w rows
     split at h5
     ·rename_i y7 t2 z m
      cases kb:Nat.beq key y7<;>simp only[kb,cond_true,cond_false]at h5;cases hj:Nat.beq j 0<;>simp only[hj,cond_true,cond_false]at h5;obtain rfl:=CW.1 hj;obtain rfl:=CW.1 kb;obtain ⟨z',es,g0,h5⟩:=h5;cases hz:Nat.beq z z'<;>simp only[hz,cond_true,cond_false]at h5;obtain rfl:=CW.1 hz;obtain ⟨⟨rfl,hi,hwr⟩,h5⟩:=h5;have s8:B6.e7 σ key (.vw (w.set i t2) rows)=⟨1,(w.map λ t=>((DE σ key 0 rows)[t]?).getD []).set i [.row (σ key (t2+1)).1 (σ key (t2+1)).2 z 0 es.length]⟩:=by
       simp only[B6.e7];congr 1;apply List.ext_getElem?;intro p;rw[List.getElem?_map];by_cases hp:i=p
       ·subst hp
        rw[List.getElem?_set_self hi,List.getElem?_set_self (by rw[List.length_map];exact hi),Option.map_some,IU,g0];simp
       ·rw[List.getElem?_set_ne hp,List.getElem?_set_ne hp,List.getElem?_map]
      have hv:=hr.view (w:=w.set i t2) hm (Or.inr ⟨w,rfl⟩);have hlen:(w.map λ t=>((DE σ key 0 rows)[t]?).getD [])[i]? = some ((w.map λ t=>((DE σ key 0 rows)[t]?).getD [])[i]'(by rw[List.length_map];exact hi)):=zE _;have ln:((w.map λ t=>((DE σ key 0 rows)[t]?).getD [])[i]'(by rw[List.length_map];exact hi)).length=1:=by
       rw[List.getElem_map];have l8:=hwr w[i] (List.getElem_mem hi);rw[IU,zE l8];simp only[Option.map_some,Option.getD_some];split<;>rfl
      refine ⟨.dt (.g8 []) (st.own.put s ((st.own s).q6 (σ key 0).2 (some (B6.e7 σ key (.vw (w.set i t2) rows))))),_,_,_,λ C => ?_,h5,rfl,hv⟩;rw[s8];simp only[e8,hr.ev e (by intro e;cases e),GQ,hr.ev rfl h0,U7 hc,List.length_map];rw[if_pos qj];simp only[BC.ma,BC.get,hs,az,B6.e7,hlen,List.map_cons,List.map_nil,List.length_cons,List.length_nil,B8];rw[if_pos (by omega)];simp only[Option.map_some];have Br:splice ((w.map λ t=>((DE σ key 0 rows)[t]?).getD [])[i]'(by rw[List.length_map];exact hi)) 0 [.row (σ key (t2+1)).1 (σ key (t2+1)).2 z 0 es.length]=[.row (σ key (t2+1)).1 (σ key (t2+1)).2 z 0 es.length]:=by
       simp only[splice,List.take_zero,List.nil_append,List.length_cons,List.length_nil,Nat.zero_add];rw[List.drop_of_length_le (by omega)];rfl
      rw[Br]
     ·exact h5.elim
   ·rename_i i'
    split at h5
    ·rename_i rows
     cases hd:GH vs<;>simp only[hd,cond_true,cond_false]at h5;obtain ⟨z,es,g0,cs,g1,g2,g3,h5⟩:=h5;have az:=hr.sat.e7 key (i'+1) (.rw z es) (by simp [c8,hm,g0]);refine ⟨.dt (.g8 []) (st.own.put (σ key (i'+1)).1 ((st.own (σ key (i'+1)).1).q6 (σ key (i'+1)).2 (some ⟨z,es.set i (splice cs j vs)⟩))),σ,_,_,λ C => ?_,h5,rfl,hr.Ln hm g0 g3⟩;simp only[e8,hr.ev e (by intro e;cases e),GQ,hr.ev rfl h0,U7 hc,PE hd];rw[if_pos qj];simp only[BC.ma,BC.get,az,B6.e7,g1];rw[if_pos g2];rfl
    ·exact h5.elim
  ·exact h5.elim
 ·exact h.elim
theorem Vq {s z bytes:Nat} {zero:List AV} {a c:BH} (hr:RX σ tm M st) (h:XE L tm M c5 K (.mk s z bytes zero a c)):C1 L tm c5 K (.mk s z bytes zero a c) st:=by
 simp only[XE]at h;split at h
 ·rename_i k1 p k2 q e1 e2
  cases hz:Nat.beq zero.length z<;>simp only[hz,cond_true,cond_false]at h;cases hd:GH zero<;>simp only[hd,cond_true,cond_false]at h;split at h
  ·cases iu:HU s<;>simp only[iu,cond_true,cond_false]at h
   obtain ⟨⟨g1,g2,g3,g4⟩,h⟩:=h;obtain ⟨k,h1,h2,h3⟩:=N7 h;have im:B6.flat (.mx (List.replicate p.toNat none)):=by
    intro i x hx;have:=List.getElem?_replicate (n:=p.toNat) (a:=(none:Option (Nat × List (List AV)))) (i:=i)
    rw[this]at hx;split at hx<;>cases hx
   have kf:z=1:=(CW.1 hz).symm;have rz:B6.e7 σ k (.mx (List.replicate p.toNat none))=⟨z,List.replicate p.toNat [.nil]⟩:=by
    simp only[B6.e7,kf];congr 1;have : ∀ (n i:Nat),DE σ k i (List.replicate n none)=List.replicate n [AV.nil]:=by
     intro n;induction n with
     | zero=>intro i;rfl
     | succ n ih=>intro i;rw[List.replicate_succ,List.replicate_succ,DE,ih]
    exact this _ _
   refine ⟨.new s (B6.e7 σ k (.mx (List.replicate p.toNat none))) (λ t => .row s t z 0 p.toNat),_,_,_,λ C => ?_,h3,?_,hr.gp h1 h2 (.mx _) im rfl (λ_=>iu)⟩
   ·simp only[e8,hr.ev e1 (by intro e;cases e),hr.ev e2 (by intro e;cases e),N4,rz]
    rw[if_pos ⟨g1,g2,g3,g4,CW.1 hz⟩]
   ·simp only[DS.res,FJ,C9]
  ·cases iu:HU s<;>simp only[iu,cond_true,cond_false]at h
   obtain ⟨⟨g1,g2,g3,g4⟩,h⟩:=h;obtain ⟨k,h1,h2,h3⟩:=N7 h;refine ⟨.new s ⟨z,List.replicate p.toNat zero⟩ (λ t => .row s t z 0 p.toNat),_,_,_,λ C => ?_,h3,?_,hr.gp h1 h2 (.rw z _) trivial rfl (λ_=>iu)⟩
   ·simp only[e8,hr.ev e1 (by intro e;cases e),hr.ev e2 (by intro e;cases e),N4]
    rw[if_pos ⟨g1,g2,g3,g4,CW.1 hz⟩]
   ·simp only[DS.res,FJ,C9]
 ·exact h.elim
theorem xJ {v:AV} {K:AV->Prop} (h:f2 v K):v ≠ .any/\CI σ v=C0 σ v/\K v:=by
 cases v<;>simp only[f2,NU]at h<;>first|exact h.elim|exact ⟨(by intro e;cases e),rfl,h⟩
theorem zC : ∀ (vs:List AV) (i:Nat),yn vs i ≠ .any->vs[i]? = some (yn vs i)
 | [],_,h=>absurd rfl h
 | _::_,0,_=>rfl
 | _::r,i+1,h=>zC r i h
theorem Xn {x:BH} {i:Nat} (hr:RX σ tm M st) (h:XE L tm M c5 K (.ext x i)):C1 L tm c5 K (.ext x i) st:=by
 simp only[XE]at h;split at h
 ·rename_i vs e
  obtain ⟨h1,h2,h3⟩:=xJ (σ:=σ) h;refine C1.val hr _ (λ C => ?_) h3;simp only[e8,hr.ev e (by intro e;cases e),O6,List.getElem?_map,zC vs i h1,Option.map_some,h2]
 ·exact h.elim
theorem Vp {x:BH} (hr:RX σ tm M st) (h:XE L tm M c5 K (.len x)):C1 L tm c5 K (.len x) st:=by
 simp only[XE]at h;split at h
 ·rename_i q es e
  exact C1.val hr _ (λ C=>by simp only[e8,hr.ev e (by intro e;cases e),OM,WG];rfl) h.h
 ·rename_i e
  exact C1.val hr _ (λ C=>by simp only[e8,hr.ev e (by intro e;cases e),JE,WG];rfl) h
 ·rename_i e
  exact C1.val hr _ (λ C=>by simp only[e8,hr.ev e (by intro e;cases e),FJ,WG];rfl) h
 ·exact h.elim
theorem Nx {mx:Bool} {k:IntKind} {K:AV->Prop} : ∀ {l:List AV} {a:Int},YT mx k K a l -> ∃ n,QN mx (.int k a) l=some (.int k n)/\K (.int k n)/\(∀ v∈l,v ≠ .any/\CI σ v=v)
 | [],a,h=>⟨a,rfl,h,λ v hv=>by cases hv⟩
 | v::r,a,h=>by
  cases v with
  | int k' b =>
   have h:(bif mx then A8 (a<b) (b<=a) (YT mx k K b r) (YT mx k K a r) else A8 (b<a) (a<=b) (YT mx k K b r) (YT mx k K a r)):=h;have fin : ∀ c:Int,WK mx (.int k a) (.int k' b)=some (.int k c)->YT mx k K c r -> ∃ n,QN mx (.int k a) (.int k' b::r)=some (.int k n)/\K (.int k n)/\(∀ v∈AV.int k' b::r,v ≠ .any/\CI σ v=v):=by
    intro c hc hx;obtain ⟨n,h1,h2,h3⟩:=Nx hx;refine ⟨n,by simp only[QN,hc,h1],h2,λ v hv => ?_⟩;rcases List.mem_cons.1 hv with rfl|hv
    ·exact ⟨(by intro e;cases e),rfl⟩
    ·exact h3 v hv
   cases mx
   ·simp only[cond_false]at h
    by_cases hc:b<a
    ·exact fin b (by simp [WK,hc]) (h.1 hc)
    ·exact fin a (by simp [WK,hc]) (h.2 (by omega))
   ·simp only[cond_true]at h
    by_cases hc:a<b
    ·exact fin b (by simp [WK,hc]) (h.1 hc)
    ·exact fin a (by simp [WK,hc]) (h.2 (by omega))
  | _=>exact (h:False).elim
theorem Vs {mx:Bool} {xs:List BH} (hr:RX σ tm M st) (h:XE L tm M c5 K (.mm mx xs)):C1 L tm c5 K (.mm mx xs) st:=by
 simp only[XE]at h;split at h
 ·rename_i k a r e
  obtain ⟨n,h1,h2,h3⟩:=Nx (σ:=σ) h;refine C1.val hr (.int k n) (λ C => ?_) h2;have hx : ∀ v∈XC tm xs,v ≠ .any:=by
   rw[e];intro v hv;rcases List.mem_cons.1 hv with rfl|hv
   ·intro e;cases e
   ·exact (h3 v hv).1
  have hm:(XC tm xs).map (CI σ) = .int k a::r:=by
   rw[e,List.map_cons];congr 1;conv=>rhs;rw[<-List.map_id r]
   exact List.map_congr_left λ v hv=>(h3 v hv).2
  simp only[e8];rw[show xs.map st.ev = .int k a::r from (evL hr hx).trans hm];simp only[h1,Option.map_some,N4]
 ·exact h.elim
theorem AiB (hr:RX σ tm M st) {k t:Nat} {K:Nat->List (List AV)->Prop} (h:qJ M k t K) : ∃ z es,(st.own (σ k t).1).e7 (σ k t).2=some ⟨z,es⟩/\K z es:=by
 unfold qJ at h;split at h
 ·rename_i s c hm
  split at h
  ·split at h
   ·exact ⟨_,_,hr.sat.e7 _ _ _ (GY hm),h⟩
   ·exact h.elim
  ·rename_i i
   split at h
   ·rename_i rows
    obtain ⟨z,es,g,h⟩:=h;exact ⟨z,es,hr.sat.e7 k (i+1) (.rw z es) (by simp [c8,hm,g]),h⟩
   ·exact h.elim
 ·exact h.elim
theorem Ai5 {own n0:BC} {s t i j:Nat} {vs:List AV} (h:own.ma s t i j vs=some n0):own.put s (n0 s)=n0:=by
 unfold BC.ma at h;cases hg:own.get s t with
 | none=>simp [hg]at h
 | some b =>
  simp only[hg]at h;cases he:b.es[i]? with
  | none=>simp [he]at h
  | some cs =>
   simp only[he]at h;split at h
   ·obtain rfl:=Option.some.inj h
    rw[BC.k7]
   ·cases h
theorem Ada {s n:Nat} {x v:BH} (hr:RX σ tm M st) (h:XE L tm M c5 K (.nr s n x v)):C1 L tm c5 K (.nr s n x v) st:=by
 simp only[XE]at h;split at h
 ·rename_i key i j e1
  split at h
  ·rename_i s' c hm
   cases hb:Nat.beq s' s<;>simp only[hb,cond_true,cond_false]at h;obtain rfl:=CW.1 hb;have fm:=hr.sat.site _ _ _ hm;obtain ⟨E,σ',v',M',h1,h2,h3,h4⟩:=sT (c5:=c5) (L:=L) hr (show XE L tm M c5 K (.st n x v) from h);have cu:=hr.ev e1 (by intro e;cases e);rw[GQ,fm]at cu;have key : ∀ vs,cellsOf (st.ev v)=some vs->vs.length=n -> ∃ o',st.own.ma s' (σ key 0).2 i j vs=some o'/\E = .dt (.g8 []) o':=λ vs ic hn=>by
    have:=h1 0
    simp only[e8,cu,ic]at this;rw[if_pos hn,Option.map_eq_some_iff]at this;obtain ⟨o',a1,a2⟩:=this;exact ⟨o',a1,a2.symm⟩
   cases ic:cellsOf (st.ev v) with
   | none=>have:=h1 0;simp [e8,cu,ic]at this
   | some vs =>
    by_cases hn:vs.length=n
    ·obtain ⟨o',a1,rfl⟩:=key vs ic hn
     refine ⟨.q6 s' (o' s'),σ',v',M',λ C => ?_,h2,h3,?_⟩
     ·simp only[e8,cu,ic]
      rw[if_pos ⟨trivial,hn⟩,a1];rfl
     ·have e2:(DS.res st.own (.q6 s' (o' s'))).2=o':=Ai5 a1
      rw[e2];exact h4
    ·have:=h1 0
     simp only[e8,cu,ic]at this;rw[if_neg hn]at this;cases this
  ·exact h.elim
 ·exact h.elim
theorem Vn {ne:Bool} {x:BH} (hr:RX σ tm M st) (h:XE L tm M c5 K (.rp ne x)):C1 L tm c5 K (.rp ne x) st:=by
 simp only[XE]at h;split at h
 ·rename_i e1
  rw[WD]at h;exact C1.val hr _ (λ C=>by simp only[e8,hr.ev e1 (by intro e;cases e),JE,M6]) h
 ·rename_i b e1
  rw[WD]at h;exact C1.val hr _ (λ C=>by simp only[e8,hr.ev e1 (by intro e;cases e),AiC,M6]) h
 ·rename_i q es e1
  obtain ⟨h0,h⟩:=h;rw[WD]at h;cases es with
  | nil=>exact absurd rfl h0
  | cons e es=>exact C1.val hr _ (λ C=>by simp only[e8,hr.ev e1 (by intro e;cases e),OM,M6]) h
 ·rename_i s t z o n e1
  obtain ⟨h0,h⟩:=h;rw[WD]at h;cases n with
  | zero=>exact absurd h0 (by omega)
  | succ n=>exact C1.val hr _ (λ C=>by simp only[e8,hr.ev e1 (by intro e;cases e),FJ,M6]) h
 ·exact h.elim
theorem Vv {tb:List Nat} {x:BH} (hr:RX σ tm M st) (h:XE L tm M c5 K (.gv tb x)):C1 L tm c5 K (.gv tb x) st:=by
 simp only[XE]at h;split at h
 ·rename_i k n e1
  obtain ⟨h0,v,h1,h2⟩:=h;exact C1.val hr _ (λ C=>by simp only[e8,hr.ev e1 (by intro e;cases e),N4,h1];rw[if_pos h0]) h2
 ·exact h.elim
theorem Agg {v:AV} {K:AV->Prop} (h:fF v K):v ≠ .any/\KO (CI σ v)=some (B8 σ v)/\K v:=by
 cases v<;>first|exact (h:False).elim|exact ⟨(by intro e;cases e),rfl,h⟩
theorem Om (hr:RX σ tm M st) : ∀ {l:List BH} {K:List AV->Prop},pM tm l K -> ∃ cs,l.mapM (λ x=>KO (st.ev x))=some (cs.map (B8 σ))/\K cs
 | [],K,h=>⟨[],rfl,h⟩
 | x::r,K,h=>by
  obtain ⟨h0,hc,h⟩:=Agg (σ:=σ) (show fF (ex tm x) λ v=>pM tm r λ cs=>K (v::cs) from h);obtain ⟨cs,h1,h2⟩:=Om hr h;refine ⟨ex tm x::cs,?_,h2⟩;rw[List.mapM_cons,h1,hr.ev rfl h0,hc];rfl
theorem Vr {p:Bool} {f:Nat} {xs:List BH} (hr:RX σ tm M st) (h:XE L tm M c5 K (.pe p f xs)):C1 L tm c5 K (.pe p f xs) st:=by
 simp only[XE]at h;obtain ⟨cs,h1,h2⟩:=Om hr h;exact C1.val hr _ (λ C=>by simp only[e8,h1,Option.map_some,jB,List.isEmpty_map];rfl) h2
theorem Ae3 (hr:RX σ tm M st) {v:AV} {K:List (List AV)->Prop} (h:gP M v K):v ≠ .any /\ ∃ es,G0 st.own (CI σ v)=some es/\K es:=by
 cases v with
 | sl q es=>exact ⟨(by intro e;cases e),_,rfl,h⟩
 | nil=>exact ⟨(by intro e;cases e),_,rfl,h⟩
 | da v =>
  cases v with
  | bool b=>exact ⟨(by intro e;cases e),_,rfl,h⟩
  | _=>exact (h:False).elim
 | row key t z off len =>
  simp only[gP]at h;obtain ⟨z',es,g,h⟩:=AiB hr h;cases hz:Nat.beq z z'<;>simp only[hz,cond_true,cond_false]at h;obtain rfl:=CW.1 hz;refine ⟨(by intro e;cases e),_,?_,h.2⟩;simp only[FJ,G0,BC.get,g];rw[if_pos ⟨h.1,trivial⟩]
 | _=>exact (h:False).elim
theorem pN (hr:RX σ tm M st) {o:Option BH} {K:Option Int->Prop} (h:iM tm o K):(o=none/\K none) \/ ∃ x k n,o=some x/\st.ev x = .int k n/\K (some n):=by
 unfold iM at h;split at h
 ·exact Or.inl ⟨rfl,h⟩
 ·split at h
  ·rename_i e
   exact Or.inr ⟨_,_,_,rfl,hr.ev e (by intro e;cases e),h⟩
  ·exact h.elim
theorem Vw {z:Nat} {x:BH} {lo hi:Option BH} (hr:RX σ tm M st) (h:XE L tm M c5 K (.ig z x lo hi)):C1 L tm c5 K (.ig z x lo hi) st:=by
 simp only[XE]at h;have go : ∀ (a b:Option Int),(match ex tm x with
   | .sl l es=>FG z es a b λ es=>K (.sl l es) M
   | .row key t z' off len=>bif Nat.beq z' z then DB a b len λ a h=>K (.row key t z (off+a) (h-a)) M else False
   | .nil=>(match a,b with
    | none,none=>K .nil M
    | some a,none=>BT (a=0) (K .nil M)
    | none,some h=>BT (h=0) (K .nil M)
    | some a,some h=>BT (a=0/\h=0) (K .nil M))
   | _=>False)->(lo=none/\a=none \/ ∃ y k n,lo=some y/\st.ev y = .int k n/\a=some n)->(hi=none/\b=none \/ ∃ y k n,hi=some y/\st.ev y = .int k n/\b=some n)->C1 L tm c5 K (.ig z x lo hi) st:=by
  intro a b h ha hb;split at h
  ·rename_i q es e
   obtain ⟨g1,a',h',g2,g3,g4,h⟩:=h;refine C1.val hr _ (λ C => ?_) h;rcases ha with ⟨rfl,rfl⟩|⟨y,k,n,rfl,e1,rfl⟩<;>rcases hb with ⟨rfl,rfl⟩|⟨y',k',n',rfl,e2,rfl⟩<;>try simp only at g2 g3<;>simp only[e8,hr.ev e (by intro e;cases e),OM, *]<;>simp_all
  ·rename_i key t z' off len e
   cases hz:Nat.beq z' z<;>simp only[hz,cond_true,cond_false]at h;obtain rfl:=CW.1 hz;obtain ⟨a',h',g2,g3,g4,h⟩:=h;refine C1.val hr _ (λ C => ?_) h;rcases ha with ⟨rfl,rfl⟩|⟨y,k,n,rfl,e1,rfl⟩<;>rcases hb with ⟨rfl,rfl⟩|⟨y',k',n',rfl,e2,rfl⟩<;>try simp only at g2 g3<;>simp only[e8,hr.ev e (by intro e;cases e),FJ, *]<;>simp_all
  ·rename_i e
   rcases ha with ⟨rfl,rfl⟩|⟨y,k,n,rfl,e1,rfl⟩<;>rcases hb with ⟨rfl,rfl⟩|⟨y',k',n',rfl,e2,rfl⟩<;>simp only at h
   ·exact C1.val hr .nil (λ C=>by simp only[e8,hr.ev e (by intro e;cases e),JE]) h
   ·exact C1.val hr .nil (λ C=>by simp only[e8,hr.ev e (by intro e;cases e),JE,e2,h.1,if_true]) h.2
   ·exact C1.val hr .nil (λ C=>by simp only[e8,hr.ev e (by intro e;cases e),JE,e1,h.1,if_true]) h.2
   ·exact C1.val hr .nil (λ C=>by simp only[e8,hr.ev e (by intro e;cases e),JE,e1,e2,h.1.1,h.1.2,if_true]) h.2
  ·exact h.elim
 rcases pN hr h with ⟨h1,h⟩|⟨y,k,n,h1,h2,h⟩
 ·rcases pN hr h with ⟨g1,h⟩|⟨y,k,n,g1,g2,h⟩
  ·exact go _ _ h (Or.inl ⟨h1,rfl⟩) (Or.inl ⟨g1,rfl⟩)
  ·exact go _ _ h (Or.inl ⟨h1,rfl⟩) (Or.inr ⟨_,_,_,g1,g2,rfl⟩)
 ·rcases pN hr h with ⟨g1,h⟩|⟨y',k',n',g1,g2,h⟩
  ·exact go _ _ h (Or.inr ⟨_,_,_,h1,h2,rfl⟩) (Or.inl ⟨g1,rfl⟩)
  ·exact go _ _ h (Or.inr ⟨_,_,_,h1,h2,rfl⟩) (Or.inr ⟨_,_,_,g1,g2,rfl⟩)
theorem iU {s key:Nat} : ∀ {M:Mem},KP s M=false->KP s (o7 key M)=false
 | [],_=>rfl
 | (i,s0,c0)::r,h=>by
  simp only[KP]at h;cases q0:Nat.beq s i<;>simp only[q0,cond_true,cond_false]at h
  ·cases q1:M5 s c0<;>simp only[q1,cond_true,cond_false]at h
   ·simp only[o7]
    cases Nat.beq key i
    ·simp only[cond_false,KP,q0,q1,iU h]
    ·simp only[cond_true,iU h]
   ·cases h
  ·cases h
theorem Wp {s z bytes:Nat} {x y:BH} (hr:RX σ tm M st) (h:gP M (ex tm y) λ ys=>match ex tm x with
   | .row key 0 z' off len=>bif Nat.beq off 0 then bif Nat.beq z' z then (match c9 M key with
    | some (s',.rw ij es)=>bif Nat.beq ij z then fM (o7 key M) λ M'=>(DK es len ys z bytes λ es' n=>JV s tm M λ k=>K (.row k 0 z 0 n) ((k,s',.rw z es')::M')) else False
    | _=>False) else False else False
   | .row key (i+1) z' off len=>bif Nat.beq off 0 then bif Nat.beq z' z then (match c9 M key with
    | some (sk,.mx rows)=>fM (o7 key M) λ M'=>FL rows i λ ij es=>bif Nat.beq ij z then (DK es len ys z bytes λ es' n => ∀ s' v,JV s tm M λ k=>K (.row k 0 z 0 n) ((k,s',.rw z es')::(key,sk,.hx i v (rows.set i none))::M')) else False
    | _=>False) else False else False
   | .nil=>bif HU s then EE ys z bytes λ es n=>JV s tm M λ k=>K (.row k 0 z 0 n) ((k,s,.rw z es)::M) else False
   | _=>False):C1 L tm c5 K (.app s z bytes x y) st:=by
 obtain ⟨h0,ys,hy,h⟩:=Ae3 hr h;have Dh:G0 st.own (st.ev y)=some ys:=by rw[hr.ev rfl h0];exact hy
 split at h
 ·rename_i key z' off len e
  cases ho:Nat.beq off 0<;>simp only[ho,cond_true,cond_false]at h;cases hz:Nat.beq z' z<;>simp only[hz,cond_true,cond_false]at h;obtain rfl:=CW.1 ho;obtain rfl:=CW.1 hz;split at h
  ·rename_i s' ij es hm
   cases rn:Nat.beq ij z'<;>simp only[rn,cond_true,cond_false]at h;obtain rfl:=CW.1 rn;rw[VH]at h;obtain ⟨g1,g2,g3,g4,h⟩:=h;obtain ⟨k,h1,h2,h3⟩:=N7 h;have hs:=hr.sat.site _ _ _ hm;have az:=hr.sat.e7 _ _ _ (GY hm);have hn:=(hr.kill hm).gp (s:=k) (q:=s') (iU h1) h2 (.rw ij (es.take len++ys)) trivial rfl (λ_=>by have:=hr.sat.low _ _ _ (GY hm) rfl;rwa [hs]at this);have Ar:(st.own.put s' ((st.own s').q6 (σ key 0).2 none)).j5 s'=st.own.j5 s':=by simp [BC.j5,BC.k7,DM.q6]
   simp only[BC.k7,BC.lz,Ar]at hn;refine ⟨.dt (.row s' (st.own.j5 s') ij 0 (len+ys.length)) (st.own.put s' (((st.own s').q6 (σ key 0).2 none).new ⟨ij,es.take len++ys⟩)),_,_,_,λ C => ?_,h3,?_,hn⟩
   ·rw[hs]at az
    simp only[e8,Dh,hr.ev e (by intro e;cases e),FJ,BC.get,hs,az,B6.e7];rw[if_pos g2,if_pos ⟨trivial,trivial,g1,g3,g4⟩]
   ·simp only[DS.res,FJ,C9]
  ·exact h.elim
 ·rename_i key i z' off len e
  cases ho:Nat.beq off 0<;>simp only[ho,cond_true,cond_false]at h;cases hz:Nat.beq z' z<;>simp only[hz,cond_true,cond_false]at h;obtain rfl:=CW.1 ho;obtain rfl:=CW.1 hz;split at h
  ·rename_i sk rows hm
   rw[VH]at h;obtain ⟨ij,es,g0,h⟩:=h;cases rn:Nat.beq ij z'<;>simp only[rn,cond_true,cond_false]at h;obtain rfl:=CW.1 rn;obtain ⟨g1,g2,g3,g4,h⟩:=h;have h:=h (σ key (i+1)).1 (.row (σ key (i+1)).1 (σ key (i+1)).2 ij 0 es.length);obtain ⟨k,h1,h2,h3⟩:=N7 h;have az:=hr.sat.e7 key (i+1) (.rw ij es) (by simp [c8,hm,g0]);have hn:=hr.Hx (s:=k) (es':=es.take len++ys) hm g0 h1 h2;refine ⟨.dt (.row (σ key (i+1)).1 (st.own.j5 (σ key (i+1)).1) ij 0 (len+ys.length)) (st.own.put (σ key (i+1)).1 (((st.own (σ key (i+1)).1).q6 (σ key (i+1)).2 none).new ⟨ij,es.take len++ys⟩)),_,_,_,λ C => ?_,h3,?_,hn⟩
   ·simp only[e8,Dh,hr.ev e (by intro e;cases e),FJ,BC.get,az,B6.e7]
    rw[if_pos g2,if_pos ⟨trivial,trivial,g1,g3,g4⟩]
   ·simp only[DS.res,FJ,C9]
  ·exact h.elim
 ·rename_i e
  cases iu:HU s<;>simp only[iu,cond_true,cond_false]at h;obtain ⟨g2,g3,g4,h⟩:=h;obtain ⟨k,h1,h2,h3⟩:=N7 h;refine ⟨.dt (.row s (st.own.j5 s) z 0 ys.length) (st.own.put s ((st.own s).new ⟨z,ys⟩)),_,_,_,λ C => ?_,h3,?_,hr.gp h1 h2 (.rw z ys) trivial rfl (λ_=>iu)⟩
  ·simp only[e8,Dh,hr.ev e (by intro e;cases e),JE]
   rw[if_pos g2,if_pos ⟨g3,g4⟩]
  ·simp only[DS.res,FJ,C9]
 ·exact h.elim
theorem Adh {v:AV} {ky k2 z n:Nat} (h:X6 M v=some (ky,some (k2,z,n))):v = .row ky 0 1 0 1 /\ ∃ sy,c9 M ky=some (sy,.bs 1 [[.row k2 0 z 0 n]]):=by
 unfold X6 at h;split at h
 ·split at h
  ·rename_i hm
   simp only[Option.some.injEq,Prod.mk.injEq]at h;obtain ⟨rfl,rfl,rfl,rfl⟩:=h;exact ⟨rfl,_,hm⟩
  ·simp at h
  ·cases h
 ·cases h
theorem Adg {v:AV} {ky:Nat} (h:X6 M v=some (ky,none)):v = .row ky 0 1 0 1 /\ ∃ sy,c9 M ky=some (sy,.rw 1 [[.nil]]):=by
 unfold X6 at h;split at h
 ·split at h
  ·simp at h
  ·rename_i hm
   simp only[Option.some.injEq,Prod.mk.injEq,and_true]at h;subst h;exact ⟨rfl,_,hm⟩
  ·cases h
 ·cases h
theorem zB {z:Nat} : ∀ {es:List (List AV)},dH z es=true -> ∀ e∈es,e.length=z
 | [],_,e,he=>by cases he
 | a::r,h,e,he=>by
  simp only[dH]at h;cases h1:Nat.beq a.length z<;>simp only[h1,cond_true,cond_false]at h
  ·cases h
  ·rcases List.mem_cons.1 he with rfl|he
   ·exact CW.1 h1
   ·exact zB h e he
theorem Mp {k:Nat} {b:List (List AV)} (r2:PI k b=false) : ∀ {a:List (List AV)},PI k a=false->PI k (a++b)=false
 | [],_=>r2
 | c::a,h=>by
  simp only[PI,List.cons_append]at h ⊢;cases hq:OH k c<;>simp only[hq,cond_true,cond_false]at h ⊢
  ·exact Mp r2 h
  ·cases h
theorem Ws {s z bytes:Nat} {x y:BH} (hr:RX σ tm M st) (h:kY tm M s z bytes x y K):C1 L tm c5 K (.app s z bytes x y) st:=by
 unfold kY at h;split at h
 ·rename_i ky zy ny ey
  split at h
  ·rename_i sy z2 ki qh
   cases a1:Nat.beq zy z<;>simp only[a1,cond_true,cond_false]at h;cases a2:Nat.beq z2 z<;>simp only[a2,cond_true,cond_false]at h;cases a3:Nat.beq ny ki.length<;>simp only[a3,cond_true,cond_false]at h;cases a4:dH z ki<;>simp only[a4,cond_true,cond_false]at h;have b1:=CW.1 a1;have b2:=CW.1 a2;have b3:=CW.1 a3;subst b1 b2 b3;have ke:=hr.sat.site _ _ _ qh;have qe:=hr.sat.e7 _ _ _ (GY qh);rw[ke]at qe
   have Ak:G0 st.own (st.ev y)=some (ki.map λ cs=>cs.map (B8 σ)):=by
    rw[hr.ev ey (by intro e;cases e)];simp only[FJ,G0,BC.get,ke,qe,B6.e7];rw[if_pos (by simp),List.drop_zero,zT (by simp)]
   have vp : ∀ e∈ki.map (λ cs=>cs.map (B8 σ)),e.length=z2:=λ e he=>by
    obtain ⟨c,hc,rfl⟩:=List.mem_map.1 he;rw[List.length_map];exact zB a4 c hc
   split at h
   ·rename_i e
    cases iu:HU s<;>simp only[iu,cond_true,cond_false]at h;obtain ⟨⟨g3,g4⟩,h⟩:=oZ h;obtain ⟨k,h1,h2,h3⟩:=N7 h;have Db:M5 k (.bs z2 ki)=false:=(VQ h1 _ _ _ qh).2;refine ⟨.dt (.row s (st.own.j5 s) z2 0 ki.length) (st.own.put s ((st.own s).new ⟨z2,ki.map λ cs=>cs.map (B8 σ)⟩)),_,_,_,λ C => ?_,h3,?_,hr.gp h1 h2 (.bs z2 ki) trivial Db (λ_=>iu)⟩
    ·simp only[e8,Ak,hr.ev e (by intro e;cases e),JE]
     rw[if_pos vp,if_pos ⟨by simpa [IW] using g3,by simpa using g4⟩,List.length_map]
    ·simp only[DS.res,FJ,C9]
   ·rename_i kx zx len e
    cases c1:Nat.beq zx z2<;>simp only[c1,cond_true,cond_false]at h;split at h
    ·rename_i s' z1 vn hm
     cases c2:Nat.beq z1 z2<;>simp only[c2,cond_true,cond_false]at h;cases c3:Nat.beq len vn.length<;>simp only[c3,cond_true,cond_false]at h;have d1:=CW.1 c1;have d2:=CW.1 c2;have d3:=CW.1 c3;subst d1 d3;rw[VH]at h;obtain ⟨⟨g3,g4⟩,h⟩:=oZ h;obtain ⟨k,h1,h2,h3⟩:=N7 h;have hs:=hr.sat.site _ _ _ hm;have az:=hr.sat.e7 _ _ _ (GY hm);have r1:PI k vn=false:=(VQ h1 _ _ _ hm).2;have r2:PI k ki=false:=(VQ h1 _ _ _ qh).2;have Db:M5 k (.bs zx (vn++ki))=false:=by
      exact Mp r2 r1
     have hn:=(hr.kill hm).gp (s:=k) (q:=s') (iU h1) h2 (.bs zx (vn++ki)) trivial Db (λ_=>by have:=hr.sat.low _ _ _ (GY hm) rfl;rwa [hs]at this);have Ar:(st.own.put s' ((st.own s').q6 (σ kx 0).2 none)).j5 s'=st.own.j5 s':=by simp [BC.j5,BC.k7,DM.q6]
     simp only[BC.k7,BC.lz,Ar,B6.e7,List.map_append]at hn;rw[hs]at az;refine ⟨.dt (.row s' (st.own.j5 s') zx 0 (vn.length+ki.length)) (st.own.put s' (((st.own s').q6 (σ kx 0).2 none).new ⟨zx,vn.map (λ cs=>cs.map (B8 σ))++ki.map λ cs=>cs.map (B8 σ)⟩)),_,_,_,λ C => ?_,h3,?_,hn⟩
     ·simp only[e8,Ak,hr.ev e (by intro e;cases e),FJ,BC.get,hs,az,B6.e7]
      rw[if_pos vp,if_pos ⟨d2,trivial,by simp,by simpa [IW] using g3,by simpa using g4⟩,zT (by simp),List.length_map]
     ·simp only[DS.res,FJ,C9,List.length_append]
    ·exact h.elim
   ·exact h.elim
  ·exact h.elim
 ·exact h.elim
theorem Wk {s z bytes:Nat} {x y:BH} (hr:RX σ tm M st) (h:XE L tm M c5 K (.app s z bytes x y)):C1 L tm c5 K (.app s z bytes x y) st:=by
 simp only[XE]at h;cases hV:Nat.ble 800000 s<;>simp only[hV,cond_true,cond_false]at h;rotate_left
 ·exact Ws hr h
 split at h
 ·rename_i ky k2 z2 n2 Ix
  obtain ⟨pc,sy,qh⟩:=Adh Ix;have ke:=hr.sat.site _ _ _ qh;have qe:=hr.sat.e7 _ _ _ (GY qh);rw[ke]at qe
  have Ak:G0 st.own (st.ev y)=some [[.row (σ k2 0).1 (σ k2 0).2 z2 0 n2]]:=by
   rw[hr.ev pc (by intro e;cases e)];simp only[FJ,G0,BC.get,ke,qe,B6.e7,B8,List.map_cons,List.map_nil,List.length_cons,List.length_nil];simp
  split at h
  ·rename_i key z' off len e
   cases ho:Nat.beq off 0<;>simp only[ho,cond_true,cond_false]at h;cases hz:Nat.beq z' 1<;>simp only[hz,cond_true,cond_false]at h;cases kf:Nat.beq z 1<;>simp only[kf,cond_true,cond_false]at h;cases se:Nat.beq key k2<;>simp only[se,cond_true,cond_false]at h;cases Ju:Nat.beq key ky<;>simp only[Ju,cond_true,cond_false]at h;cases hk3:Nat.beq k2 ky<;>simp only[hk3,cond_true,cond_false]at h;obtain rfl:=CW.1 ho;obtain rfl:=CW.1 hz;obtain rfl:=CW.1 kf;split at h
   ·rename_i s2 z3 es je
    cases Gd:Nat.beq z2 z3<;>simp only[Gd,cond_true,cond_false]at h;obtain rfl:=CW.1 Gd;split at h
    ·rename_i s' rows hm
     rw[VH]at h;obtain ⟨rfl,rfl,g3,g4,h⟩:=h;obtain ⟨k,h1,h2,h3⟩:=N7 h;have hs:=hr.sat.site _ _ _ hm;have az:=hr.sat.e7 _ _ _ (GY hm);rw[hs]at az;refine ⟨.dt (.row s' (st.own.j5 s') 1 0 (rows.length+1)) (st.own.put s' (((st.own s').q6 (σ key 0).2 none).new ⟨1,DE σ key 0 rows++[[.row (σ k2 0).1 (σ k2 0).2 z2 0 es.length]]⟩)),_,_,_,λ C => ?_,h3,?_,hr.Hz (ky:=ky) hm je (IZ.1 se) h1 h2⟩
     ·simp only[e8,Ak,hr.ev e (by intro e;cases e),FJ,BC.get,hs,az,B6.e7]
      rw[if_pos (by simp),if_pos ⟨trivial,trivial,by rw[HV];exact Nat.le_refl _,by simpa using g3,by simpa using g4⟩];rw[zT (by rw[HV];exact Nat.le_refl _)];rfl
     ·simp only[DS.res,FJ,C9]
    ·exact h.elim
   ·exact h.elim
  ·rename_i e
   cases iu:HU s<;>simp only[iu,cond_true,cond_false]at h;cases kf:Nat.beq z 1<;>simp only[kf,cond_true,cond_false]at h;obtain rfl:=CW.1 kf;split at h
   ·rename_i s2 z3 es je
    cases Gd:Nat.beq z2 z3<;>simp only[Gd,cond_true,cond_false]at h;obtain rfl:=CW.1 Gd;rw[VH]at h;obtain ⟨⟨rfl,g3⟩,h⟩:=h;obtain ⟨k,h1,h2,h3⟩:=N7 h;obtain ⟨σ',q1,q2⟩:=hr.Lk (q:=s) je (λ e=>(VQ h1 _ _ _ je).1 e.symm) h1 h2 iu;refine ⟨.dt (.row s (st.own.j5 s) 1 0 1) (st.own.put s ((st.own s).new ⟨1,[[.row (σ k2 0).1 (σ k2 0).2 z2 0 es.length]]⟩)),σ',_,_,λ C => ?_,h3,?_,q2⟩
    ·simp only[e8,Ak,hr.ev e (by intro e;cases e),JE]
     rw[if_pos (by simp),if_pos ⟨by simpa [IW] using g3,by simp⟩];rfl
    ·simp only[DS.res,FJ,q1]
   ·exact h.elim
  ·exact h.elim
 ·rename_i ky Ix
  obtain ⟨pc,sy,qh⟩:=Adg Ix;have ke:=hr.sat.site _ _ _ qh;have qe:=hr.sat.e7 _ _ _ (GY qh);rw[ke]at qe
  have Ak:G0 st.own (st.ev y)=some [[.nil]]:=by
   rw[hr.ev pc (by intro e;cases e)];simp only[FJ,G0,BC.get,ke,qe,B6.e7,List.length_cons,List.length_nil];simp
  split at h
  ·rename_i key z' off len e
   cases ho:Nat.beq off 0<;>simp only[ho,cond_true,cond_false]at h;cases hz:Nat.beq z' 1<;>simp only[hz,cond_true,cond_false]at h;cases kf:Nat.beq z 1<;>simp only[kf,cond_true,cond_false]at h;cases Ju:Nat.beq key ky<;>simp only[Ju,cond_true,cond_false]at h;obtain rfl:=CW.1 ho;obtain rfl:=CW.1 hz;obtain rfl:=CW.1 kf;split at h
   ·rename_i s' rows hm
    rw[VH]at h;obtain ⟨rfl,g3,g4,h⟩:=h;obtain ⟨k,h1,h2,h3⟩:=N7 h;have hs:=hr.sat.site _ _ _ hm;have az:=hr.sat.e7 _ _ _ (GY hm);rw[hs]at az;refine ⟨.dt (.row s' (st.own.j5 s') 1 0 (rows.length+1)) (st.own.put s' (((st.own s').q6 (σ key 0).2 none).new ⟨1,DE σ key 0 rows++[[.nil]]⟩)),_,_,_,λ C => ?_,h3,?_,hr.Ib hm h1 h2⟩
    ·simp only[e8,Ak,hr.ev e (by intro e;cases e),FJ,BC.get,hs,az,B6.e7]
     rw[if_pos (by simp),if_pos ⟨trivial,trivial,by rw[HV];exact Nat.le_refl _,by simpa using g3,by simpa using g4⟩];rw[zT (by rw[HV];exact Nat.le_refl _)];rfl
    ·simp only[DS.res,FJ,C9]
   ·exact h.elim
  ·rename_i e
   cases iu:HU s<;>simp only[iu,cond_true,cond_false]at h;cases kf:Nat.beq z 1<;>simp only[kf,cond_true,cond_false]at h;obtain rfl:=CW.1 kf;obtain ⟨g3,h⟩:=h;obtain ⟨k,h1,h2,h3⟩:=N7 h;have im:B6.flat (.mx [none]):=by
    intro i x hx;cases i with
    | zero=>simp at hx
    | succ i=>simp at hx
   refine ⟨.dt (.row s (st.own.j5 s) 1 0 1) (st.own.put s ((st.own s).new ⟨1,[[.nil]]⟩)),_,_,_,λ C => ?_,h3,?_,hr.gp h1 h2 (.mx [none]) im rfl (λ_=>iu)⟩
   ·simp only[e8,Ak,hr.ev e (by intro e;cases e),JE]
    rw[if_pos (by simp),if_pos ⟨by simpa [IW] using g3,by simp⟩];rfl
   ·simp only[DS.res,FJ,C9]
  ·exact h.elim
 ·exact Wp hr h
end
end Go.e6
