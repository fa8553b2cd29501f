/-
  The walk by computation is sound.
-/
import Derived.Test.YtpafclijakpknaaGreatB5
set_option linter.unusedSimpArgs false
set_option linter.unusedVariables false
set_option linter.unnecessarySimpa false
namespace Go.b8
theorem EF {a b:Nat}:Nat.beq a b=true↔a=b:=⟨Nat.eq_of_beq_eq_true,λ h=>by subst h;simp⟩
theorem J6 {a b:Nat}:Nat.beq a b=false↔a≠b:=by
 constructor
 ·exact Nat.ne_of_beq_eq_false
 ·intro h
  cases e:Nat.beq a b
  ·rfl
  ·exact absurd (Nat.eq_of_beq_eq_true e) h
theorem PM (j:Nat) : ∀ tm:Tm,tg tm j=g7 tm j
 | []=>rfl
 | (i,v)::r=>by
  simp only[tg,mD,PM j r];cases e:Nat.beq j i
  ·rw[if_neg (J6.1 e)];rfl
  ·rw[if_pos (EF.1 e)];rfl
theorem MT : ∀ (l:List AV) (K:List AV->Prop),fL l K=K l
 | [],_=>rfl
 | v::r,K=>by rw[fL,MT r]
theorem fD : ∀ (l:Tm) (K:Tm->Prop),fT l K=K l
 | [],_=>rfl
 | (i,v)::r,K=>by rw[fT,fD r]
theorem YP : ∀ (l:Mem) (K:Mem->Prop),fM l K=K l
 | [],_=>rfl
 | (k,s,c)::r,K=>by rw[fM,YP r]
theorem Anb (n:Nat) (K:Nat->Prop):fN n K=K n:=by cases n<;>rfl
theorem tD (m i:Nat):bit m i=m.testBit i:=by
 have h:Nat.land (Nat.shiftRight m i) 1=(m >>> i)%2:=Nat.and_one_is_mod (m >>> i);have ht:m.testBit i=decide ((m >>> i)%2=1):=by
  rw[Nat.testBit,Nat.and_comm,Nat.and_one_is_mod];rcases Nat.mod_two_eq_zero_or_one (m >>> i) with e|e<;>simp [e]
 unfold bit;rw[h,ht];rcases Nat.mod_two_eq_zero_or_one (m >>> i) with e|e<;>rw[e]<;>rfl
theorem Aba (m i j:Nat):bit (Nat.lor m (Nat.shiftLeft 1 i)) j=(bit m j||decide (j=i)):=by
 rw[tD,tD];show (m ||| (1 <<< i)).testBit j=_;rw[Nat.testBit_or,Nat.testBit_shiftLeft];congr 1;by_cases h:j=i
 ·subst h;simp
 ·by_cases h2:j≥i
  ·obtain ⟨d,rfl⟩ : ∃ d,j=i+d+1:=⟨j-i-1,by omega⟩
   rw[show i+d+1-i=d+1 by omega,Nat.testBit_succ];simp [h]
  ·simp [h2,h]
theorem Yb : ∀ (ts:List Nat) (m j:Nat),bit (mask m ts) j=(bit m j||ts.contains j)
 | [],m,j=>by simp [mask]
 | t::ts,m,j=>by
  rw[mask,Yb ts,Aba,List.contains_cons,Bool.or_assoc];congr 2
theorem tE (j:Nat):bit 0 j=false:=by rw[tD];simp
theorem mA (j:Nat) : ∀ (tm:Tm) (m:Nat),tg (Aq m tm) j=bif bit m j then .any else tg tm j
 | [],m=>by cases bit m j<;>rfl
 | (i,v)::r,m=>by
  simp only[Aq];cases hb:bit m i
  ·simp only[cond_false,tg,mA j r,Aba]
   cases hj:Nat.beq j i
   ·have:decide (j=i)=false:=by simpa using J6.1 hj
    simp only[cond_false,this,Bool.or_false]
   ·obtain rfl:=EF.1 hj
    simp only[cond_true,hb,cond_false]
  ·simp only[cond_true,tg,mA j r]
   cases hj:Nat.beq j i
   ·rfl
   ·obtain rfl:=EF.1 hj
    simp only[hb,cond_true]
theorem pB {v:AV} {K:AV->Prop} (h:fV v K):v ≠ .any/\K v:=by
 cases v<;>simp only[fV,MT]at h<;>first|exact h.elim|exact ⟨(by intro e;cases e),h⟩
theorem oZ {v:AV} {K:List AV->Prop} (h:fC v K):v ≠ .any /\ ∃ cs,cellsOf v=some cs/\K cs:=by
 cases v<;>simp only[fC,fV,MT]at h<;>first|exact h.elim|exact ⟨(by intro e;cases e),_,rfl,h⟩
theorem Z3 (b:Bool) (K:Bool->Prop):fB b K=K b:=by cases b<;>rfl
theorem AgW {k:Nat} {tm:Tm} {M:Mem} (h:used k tm M=false):L5 k M=false/\NI k tm=false:=by
 unfold used at h;cases h1:L5 k M<;>simp only[h1,cond_true,cond_false]at h
 ·exact ⟨rfl,h⟩
 ·cases h
theorem Afj {tm:Tm} {M:Mem} {K:Nat->Prop} : ∀ {l:List Nat},qF tm M l K -> ∃ k,L5 k M=false/\NI k tm=false/\K k
 | [],h=>h.elim
 | k::r,h=>by
  simp only[qF]at h;cases h0:used k tm M<;>simp only[h0,cond_true,cond_false]at h
  ·exact ⟨k,(AgW h0).1,(AgW h0).2,h⟩
  ·exact Afj h
theorem OL {s:Nat} {tm:Tm} {M:Mem} {K:Nat->Prop} (h:MC s tm M K) : ∃ k,L5 k M=false/\NI k tm=false/\K k:=Afj h
section
variable {σ:JX}
def GO (σ:JX) (k:Nat) (f:Nat->Nat × Nat):JX:=λ j t=>if j=k then f t else σ j t
theorem FY {k j:Nat} (f:Nat->Nat × Nat) (h:j≠k):GO σ k f j=σ j:=by funext t;simp [GO,h]
theorem EL (k:Nat) (f:Nat->Nat × Nat):GO σ k f k=f:=by funext t;simp [GO]
theorem zZ {k:Nat} {p:Nat->Nat × Nat} {v:AV} (h:V3 k v=false):C2 (GO σ k p) v=C2 σ v:=by
 cases v with
 | row j t z o n=>simp only[V3]at h;simp only[C2,FY p (J6.1 h)]
 | ptr j t a b=>simp only[V3]at h;simp only[C2,FY p (J6.1 h)]
 | _=>rfl
theorem gV {k:Nat} {p:Nat->Nat × Nat} : ∀ {cs:List AV},N7 k cs=false->cs.map (C2 (GO σ k p))=cs.map (C2 σ)
 | [],_=>rfl
 | c::r,h=>by
  simp only[N7]at h;cases h1:V3 k c<;>simp only[h1,cond_true,cond_false]at h
  ·rw[List.map_cons,List.map_cons,zZ h1,gV h]
  ·cases h
theorem zX {k:Nat} {p:Nat->Nat × Nat} : ∀ {es:List (List AV)},aD k es=false->(es.map λ cs=>cs.map (C2 (GO σ k p)))=es.map λ cs=>cs.map (C2 σ)
 | [],_=>rfl
 | c::r,h=>by
  simp only[aD]at h;cases h1:N7 k c<;>simp only[h1,cond_true,cond_false]at h
  ·rw[List.map_cons,List.map_cons,gV h1,zX h]
  ·cases h
theorem lU {k:Nat} {p:Nat->Nat × Nat} {v:AV} (h:Y2 k v=false):DK (GO σ k p) v=DK σ v:=by
 cases v with
 | agg cs=>simp only[Y2]at h;simp only[DK,gV h]
 | fn p f g cs=>simp only[Y2]at h;simp only[DK,gV h]
 | row a b c d e=>exact zZ (v := .row a b c d e) h
 | ptr a b c d=>exact zZ (v := .ptr a b c d) h
 | _=>rfl
theorem Agf {k:Nat} {p:Nat->Nat × Nat} : ∀ {cs:List AV},gO k cs=false->cs.map (DK (GO σ k p))=cs.map (DK σ)
 | [],_=>rfl
 | c::r,h=>by
  simp only[gO]at h;cases h1:Y2 k c<;>simp only[h1,cond_true,cond_false]at h
  ·rw[List.map_cons,List.map_cons,lU h1,Agf h]
  ·cases h
theorem rK {k:Nat} {p:Nat->Nat × Nat} {v:AV} (h:V4 k v=false):C8 (GO σ k p) v=C8 σ v:=by
 cases v with
 | g8 cs=>simp only[V4]at h;simp only[C8,Agf h]
 | agg cs=>exact lU (v := .agg cs) h
 | fn p f g cs=>exact lU (v := .fn p f g cs) h
 | row a b c d e=>exact lU (v := .row a b c d e) h
 | ptr a b c d=>exact lU (v := .ptr a b c d) h
 | _=>rfl
theorem gP {k:Nat} : ∀ {tm:Tm},NI k tm=false -> ∀ j,V4 k (tg tm j)=false
 | [],_,_=>rfl
 | (i,v)::r,h,j=>by
  simp only[NI]at h;cases h1:V4 k v<;>simp only[h1,cond_true,cond_false]at h
  ·simp only[tg]
   cases Nat.beq j i
   ·exact gP h j
   ·exact h1
  ·cases h
theorem cP {k:Nat} : ∀ {M:Mem},L5 k M=false -> ∀ j s c,c4 M j=some (s,c)->j≠k/\NH k c=false
 | [],_,_,_,_,e=>by cases e
 | (i,s0,c0)::r,h,j,s,c,e=>by
  simp only[L5]at h;cases h0:Nat.beq k i<;>simp only[h0,cond_true,cond_false]at h
  ·cases h1:NH k c0<;>simp only[h1,cond_true,cond_false]at h
   ·simp only[c4]at e
    cases h2:Nat.beq j i<;>simp only[h2,cond_true,cond_false]at e
    ·exact cP h j s c e
    ·simp only[Option.some.injEq,Prod.mk.injEq]at e
     obtain ⟨_,rfl⟩:=e;exact ⟨λ e=>J6.1 h0 (e.symm.trans (EF.1 h2)),h1⟩
   ·cases h
  ·cases h
theorem Z9 {σ σ':JX} {k:Nat} : ∀ (rows:List (Option (Nat × List (List AV)))) (i:Nat),(∀ j,i<=j->σ k (j+1)=σ' k (j+1))->FC σ k i rows=FC σ' k i rows
 | [],i,h=>rfl
 | none::r,i,h=>by rw[FC,FC,Z9 r (i+1) λ j hj=>h j (by omega)]
 | some (z,es)::r,i,h=>by rw[FC,FC,Z9 r (i+1) λ j hj=>h j (by omega),h i (by omega)]
theorem ML {k:Nat} : ∀ (rows:List (Option (Nat × List (List AV)))) (i j:Nat),(FC σ k i rows)[j]? = (rows[j]?).map λ r=>match r with|none=>[.nil]|some (z,es)=>[.row (σ k (i+j+1)).1 (σ k (i+j+1)).2 z 0 es.length]
 | [],i,j=>by simp [FC]
 | none::r,i,0=>by simp [FC]
 | none::r,i,j+1=>by simp only[FC,List.getElem?_cons_succ,ML r (i+1) j];rw[show i+1+j=i+(j+1) by omega]
 | some (z,es)::r,i,0=>by simp [FC]
 | some (z,es)::r,i,j+1=>by simp only[FC,List.getElem?_cons_succ,ML r (i+1) j];rw[show i+1+j=i+(j+1) by omega]
theorem KT {k:Nat} : ∀ (rows:List (Option (Nat × List (List AV)))) (i:Nat),(FC σ k i rows).length=rows.length
 | [],i=>rfl
 | none::r,i=>by simp [FC,KT r]
 | some (z,es)::r,i=>by simp [FC,KT r]
theorem nJ {k j:Nat} {f:Nat->Nat × Nat} {c:C3} (h:NH k c=false) (hj:j≠k):c.c9 (GO σ k f) j=c.c9 σ j:=by
 cases c with
 | bx cs=>simp only[NH]at h;simp only[C3.c9,gV h]
 | rw z es=>rfl
 | bs z es=>simp only[NH]at h;simp only[C3.c9,zX h]
 | mx rows=>simp only[C3.c9];rw[Z9 rows 0 λ i _=>by rw[FY f hj]]
 | hx a v rows=>simp only[C3.c9];rw[Z9 rows 0 λ i _=>by rw[FY f hj]]
 | vw w rows=>simp only[C3.c9];rw[Z9 rows 0 λ i _=>by rw[FY f hj]]
theorem Akl {v:AV} (h:ya v=true):C2 σ v=v:=by cases v<;>first|rfl|cases h
theorem OQ : ∀ {cs:List AV},H9 cs=true->cs.map (C2 σ)=cs
 | [],_=>rfl
 | c::r,h=>by
  simp only[H9]at h;cases h1:ya c<;>simp only[h1,cond_true,cond_false]at h
  ·cases h
  ·rw[List.map_cons,Akl h1,OQ h]
theorem Akk {k:Nat} {v:AV} (h:ya v=true):V3 k v=false:=by cases v<;>first|rfl|cases h
theorem tV {k:Nat} : ∀ {cs:List AV},H9 cs=true->N7 k cs=false
 | [],_=>rfl
 | c::r,h=>by
  simp only[H9]at h;cases h1:ya c<;>simp only[h1,cond_true,cond_false]at h
  ·cases h
  ·simp only[N7,Akk h1,tV h,cond_false]
theorem Aki (v:AV):cv v = .any\/(cv v=v/\C8 σ v=v):=by
 cases v with
 | agg cs =>
  simp only[cv];cases h:H9 cs
  ·exact Or.inl rfl
  ·exact Or.inr ⟨rfl,by simp only[C8,DK,OQ h]⟩
 | g8 vs=>cases vs with
  | nil=>exact Or.inr ⟨rfl,rfl⟩
  | cons=>exact Or.inl rfl
 | fn p f g cs=>cases cs with
  | nil=>exact Or.inr ⟨rfl,rfl⟩
  | cons=>exact Or.inl rfl
 | _=>first|exact Or.inl rfl|exact Or.inr ⟨rfl,rfl⟩
theorem Akf {k:Nat} (v:AV):V4 k (cv v)=false:=by
 cases v with
 | agg cs =>
  simp only[cv];cases h:H9 cs
  ·rfl
  ·exact tV h
 | g8 vs=>cases vs<;>rfl
 | fn p f g cs=>cases cs<;>rfl
 | _=>rfl
variable {tm:Tm} {M:Mem} {st:St}
theorem RX.ev (h:RX σ tm M st) {x:BL} {v:AV} (e:ex tm x=v) (hv:v ≠ .any):st.ev x=C8 σ v:=by
 cases x with
 | t n =>
  simp only[ex]at e;rcases h.tm n with h|h
  ·exact absurd (e.symm.trans h) hv
  ·rw[e]at h;exact h
 | c u =>
  simp only[ex]at e;rcases Aki (σ:=σ) u with h|⟨h,h'⟩
  ·exact absurd (e.symm.trans h) hv
  ·rw[<-e,h,h'];rfl
theorem Adm {k:Nat} (h:NI k tm=false) (x:BL):V4 k (ex tm x)=false:=by
 cases x with
 | t n=>exact gP h n
 | c u=>exact Akf u
theorem Afu {k:Nat} {v:AV} {cs:List AV} (h:V4 k v=false) (e:cellsOf v=some cs):N7 k cs=false:=by
 cases v<;>simp only[cellsOf,Option.some.injEq,reduceCtorEq]at e<;>subst e<;>first|exact h|rfl|(simp only[V4,Y2]at h;simp only[N7,h,cond_false])
theorem ZO {v:AV} {cs:List AV} (e:cellsOf v=some cs):cellsOf (C8 σ v)=some (cs.map (C2 σ)):=by
 cases v<;>simp only[cellsOf,Option.some.injEq,reduceCtorEq]at e<;>subst e<;>rfl
def C3.flat:C3->Prop
 | .mx rows => ∀ (i:Nat) (x:Nat × List (List AV)),rows[i]? = some (some x)->False
 | .hx _ _ _=>False
 | .vw _ _=>False
 | _=>True
theorem IJ {M:Mem} {k s:Nat} {c:C3} (h:c4 M k=some (s,c)):b9 M k 0=some c:=by simp [b9,h]
theorem NE {M:Mem} {k t:Nat} {c:C3} (h:b9 M k t=some c) : ∃ s c0,c4 M k=some (s,c0)/\(t=0->c=c0)/\(∀ i,t=i+1 -> ∃ rows z es,((c0 = .mx rows \/ ∃ a v,c0 = .hx a v rows) \/ ∃ w,c0 = .vw w rows)/\rows[i]? = some (some (z,es))/\c = .rw z es):=by
 unfold b9 at h;cases hm:c4 M k with
 | none=>simp [hm]at h
 | some x =>
  obtain ⟨s,c0⟩:=x;simp only[hm]at h;refine ⟨s,c0,rfl,?_,?_⟩
  ·rintro rfl;exact (Option.some.inj h).symm
  ·rintro i rfl
   cases c0 with
   | mx rows =>
    simp only at h;cases hr:rows[i]? with
    | none=>simp [hr]at h
    | some r =>
     cases r with
     | none=>simp [hr]at h
     | some ze=>obtain ⟨z,es⟩:=ze;simp only[hr,Option.some.injEq]at h;exact ⟨rows,z,es,Or.inl (Or.inl rfl),hr,h.symm⟩
   | hx a v rows =>
    simp only at h;cases hr:rows[i]? with
    | none=>simp [hr]at h
    | some r =>
     cases r with
     | none=>simp [hr]at h
     | some ze=>obtain ⟨z,es⟩:=ze;simp only[hr,Option.some.injEq]at h;exact ⟨rows,z,es,Or.inl (Or.inr ⟨a,v,rfl⟩),hr,h.symm⟩
   | vw w rows =>
    simp only at h;cases hr:rows[i]? with
    | none=>simp [hr]at h
    | some r =>
     cases r with
     | none=>simp [hr]at h
     | some ze=>obtain ⟨z,es⟩:=ze;simp only[hr,Option.some.injEq]at h;exact ⟨rows,z,es,Or.inr ⟨w,rfl⟩,hr,h.symm⟩
   | _=>simp at h
theorem XP {M:Mem} {k s:Nat} {c:C3} {j t:Nat} (h:j≠k):b9 ((k,s,c)::M) j t=b9 M j t:=by
 simp only[b9,c4,J6.2 h,cond_false]
theorem fY {M:Mem} {k s:Nat} {c:C3}:b9 ((k,s,c)::M) k 0=some c:=by simp [b9,c4]
theorem fZ {M:Mem} {k s:Nat} {c:C3} (hc:c.flat) {t:Nat} {c':C3} (h:b9 ((k,s,c)::M) k t=some c'):t=0/\c'=c:=by
 cases t with
 | zero=>rw[fY]at h;exact ⟨rfl,(Option.some.inj h).symm⟩
 | succ i =>
  simp only[b9,c4,Nat.beq_refl,cond_true]at h;cases c with
  | mx rows =>
   simp only at h;split at h
   ·rename_i z es hr
    exact (hc i (z,es) hr).elim
   ·cases h
  | hx a v rows=>exact hc.elim
  | vw w rows=>exact hc.elim
  | _=>simp at h
theorem Apd {σ σ':JX} {k k':Nat} {rows:List (Option (Nat × List (List AV)))} (h:C3.flat (.mx rows)):FC σ k 0 rows=FC σ' k' 0 rows:=by
 apply List.ext_getElem?;intro j;rw[ML,ML];cases hr:rows[j]? with
 | none=>rfl
 | some r=>cases r with
  | none=>rfl
  | some x=>exact (h j x hr).elim
theorem RX.mn (h:RX σ tm M st) {s q:Nat} (hm:L5 s M=false) (ht:NI s tm=false) (c:C3) (hf:c.flat) (hc:NH s c=false) (hl:c.rf=true->J9 q=true) :
  RX (GO σ s λ_=>(q,st.own.j5 q)) tm ((s,q,c)::M) ⟨st.tm,st.own.put q ((st.own q).new (c.c9 σ s))⟩:=by
 have Vv : ∀ j t c',b9 M j t=some c'->((st.own.put q ((st.own q).new (c.c9 σ s))) (σ j t).1).c9 (σ j t).2=(st.own (σ j t).1).c9 (σ j t).2:=by
  intro j t c' e;by_cases hs:(σ j t).1=q
  ·have ho:=h.sat.old _ _ _ e
   rw[hs]at ho ⊢;simp only[BD.l6,E4.new];rw[if_neg (by omega)]
  ·rw[BD.jq _ _ _ _ hs]
 have Fo : ∀ s',(st.own s').j5<=((st.own.put q ((st.own q).new (c.c9 σ s))) s').j5:=by
  intro s';by_cases hs:s'=q
  ·subst hs;simp only[BD.l6,E4.new];omega
  ·rw[BD.jq _ _ _ _ hs];exact Nat.le_refl _
 have m7 : ∀ j t c',j≠s->b9 ((s,q,c)::M) j t=some c'->b9 M j t=some c':=λ j t c' hj e=>by rwa [XP hj]at e
 have Gu : ∀ j t c',b9 M j t=some c'->NH s c'=false/\j≠s:=by
  intro j t c' e;obtain ⟨s1,c0,g1,g2,g3⟩:=NE e;obtain ⟨g4,g5⟩:=cP hm _ _ _ g1;refine ⟨?_,g4⟩;cases t with
  | zero=>rw[g2 rfl];exact g5
  | succ i=>obtain ⟨rows,z,es,_,_,rfl⟩:=g3 i rfl;rfl
 refine ⟨λ j => ?_,⟨?_,?_,?_,?_,?_⟩⟩
 ·rw[rK (gP ht j)];exact h.tm j
 ·intro j s' c' e
  simp only[c4]at e;cases hb:Nat.beq j s<;>simp only[hb,cond_true,cond_false]at e
  ·rw[FY _ (J6.1 hb)];exact h.sat.site _ _ _ e
  ·simp only[Option.some.injEq,Prod.mk.injEq]at e
   obtain ⟨rfl,rfl⟩:=e;rw[EF.1 hb,EL]
 ·intro j t c' e
  by_cases hj:j=s
  ·subst hj
   obtain ⟨rfl,rfl⟩:=fZ hf e;have hb:c'.c9 (GO σ j λ_=>(q,st.own.j5 q)) j=c'.c9 σ j:=by
    cases c' with
    | bx cs=>simp only[NH]at hc;simp only[C3.c9,gV hc]
    | rw z es=>rfl
    | bs z es=>simp only[NH]at hc;simp only[C3.c9,zX hc]
    | mx rows=>exact congrArg (HU.mk 1) (Apd hf)
    | hx a v rows=>exact hf.elim
    | vw w rows=>exact hf.elim
   rw[EL,hb];simp [BD.l6,E4.new,BD.j5]
  ·have e':=m7 j t c' hj e
   rw[FY _ hj,nJ (Gu j t c' e').1 hj];exact (Vv j t c' e').trans (h.sat.c9 _ _ _ e')
 ·intro j t c' e
  by_cases hj:j=s
  ·subst hj
   rw[EL];simp [BD.l6,E4.new,BD.j5]
  ·have e':=m7 j t c' hj e
   rw[FY _ hj];exact Nat.lt_of_lt_of_le (h.sat.old _ _ _ e') (Fo _)
 ·have pt : ∀ j t c',b9 M j t=some c'->σ j t=(q,st.own.j5 q)->False:=by
   intro j t c' e hh;have h2:=h.sat.old _ _ _ e;rw[hh]at h2;exact absurd h2 (Nat.lt_irrefl _)
  intro j t j' t' c1 c2 e1 e2 hj;by_cases h1:j=s<;>by_cases h2:j'=s
  ·subst h1;subst h2
   exact ⟨rfl,(fZ hf e1).1.trans (fZ hf e2).1.symm⟩
  ·subst h1
   rw[EL,FY _ h2]at hj;exact (pt _ _ _ (m7 _ _ _ h2 e2) hj.symm).elim
  ·subst h2
   rw[EL,FY _ h1]at hj;exact (pt _ _ _ (m7 _ _ _ h1 e1) hj).elim
  ·rw[FY _ h1,FY _ h2]at hj
   exact h.sat.inj _ _ _ _ _ _ (m7 _ _ _ h1 e1) (m7 _ _ _ h2 e2) hj
 ·intro j t c' e hw
  by_cases hj:j=s
  ·subst hj
   obtain ⟨rfl,rfl⟩:=fZ hf e;rw[EL];exact hl hw
  ·rw[FY _ hj];exact h.sat.low _ _ _ (m7 j t c' hj e) hw
theorem XJ {k j:Nat} {x:Nat × C3} : ∀ {M:Mem},c4 (w5 k M) j=some x->j≠k/\c4 M j=some x
 | [],e=>by cases e
 | (i,s,c)::r,e=>by
  simp only[w5]at e;cases hb:Nat.beq k i<;>simp only[hb,cond_true,cond_false]at e
  ·simp only[c4]at e ⊢
   cases hj:Nat.beq j i<;>simp only[hj,cond_true,cond_false]at e ⊢
   ·exact XJ e
   ·exact ⟨λ e'=>J6.1 hb (e'.symm.trans (EF.1 hj)),e⟩
  ·obtain ⟨h1,h2⟩:=XJ e
   refine ⟨h1,?_⟩;simp only[c4];rw[J6.2 (λ e'=>h1 (e'.trans (EF.1 hb).symm))];exact h2
theorem gL {own:BD} {p:Nat × Nat} {x:Option HU} {q:Nat × Nat} (h:q≠p):((own.put p.1 ((own p.1).w6 p.2 x)) q.1).c9 q.2=(own q.1).c9 q.2:=by
 by_cases hs:q.1=p.1
 ·rw[hs,BD.l6]
  simp only[E4.w6];rw[if_neg (λ e=>h (Prod.ext hs e))]
 ·rw[BD.jq _ _ _ _ hs]
theorem yH {own:BD} {p:Nat × Nat} {x:Option HU}:((own.put p.1 ((own p.1).w6 p.2 x)) p.1).c9 p.2=x:=by simp [BD.l6,E4.w6]
theorem qH {own:BD} {p:Nat × Nat} {x:Option HU} (s:Nat):((own.put p.1 ((own p.1).w6 p.2 x)) s).j5=(own s).j5:=by
 by_cases hs:s=p.1
 ·subst hs;rw[BD.l6];rfl
 ·rw[BD.jq _ _ _ _ hs]
theorem RX.Pz (h:RX σ tm M st) {k s:Nat} {c:C3} (e:c4 M k=some (s,c)) (hf:c.flat) (c':C3) (ql:c'.flat) (hir:c'.rf=true->c.rf=true) :
  RX σ tm ((k,s,c')::M) ⟨st.tm,st.own.put s ((st.own s).w6 (σ k 0).2 (some (c'.c9 σ k)))⟩:=by
 have hs:=h.sat.site _ _ _ e;subst hs;have e0:=IJ e;have hg : ∀ j t c1,b9 ((k,(σ k 0).1,c')::M) j t=some c1->(j=k/\t=0/\c1=c')\/(j≠k/\b9 M j t=some c1):=by
  intro j t c1 e1;by_cases hj:j=k
  ·subst hj
   obtain ⟨rfl,rfl⟩:=fZ ql e1;exact Or.inl ⟨rfl,rfl,rfl⟩
  ·rw[XP hj]at e1
   exact Or.inr ⟨hj,e1⟩
 have Aw : ∀ j t c1,b9 ((k,(σ k 0).1,c')::M) j t=some c1 -> ∃ c2,b9 M j t=some c2:=by
  intro j t c1 e1;rcases hg j t c1 e1 with ⟨rfl,rfl,rfl⟩|⟨_,h2⟩
  ·exact ⟨c,e0⟩
  ·exact ⟨c1,h2⟩
 refine ⟨h.tm,⟨?_,?_,?_,?_,?_⟩⟩
 ·intro j s' c1 e1
  simp only[c4]at e1;cases hb:Nat.beq j k<;>simp only[hb,cond_true,cond_false]at e1
  ·exact h.sat.site _ _ _ e1
  ·simp only[Option.some.injEq,Prod.mk.injEq]at e1
   rw[EF.1 hb];exact e1.1
 ·intro j t c1 e1
  rcases hg j t c1 e1 with ⟨rfl,rfl,rfl⟩|⟨h1,h2⟩
  ·exact yH
  ·refine (gL (λ he => ?_)).trans (h.sat.c9 _ _ _ h2)
   exact h1 (h.sat.inj _ _ _ _ _ _ h2 e0 he).1
 ·intro j t c1 e1
  obtain ⟨c2,e2⟩:=Aw _ _ _ e1;show (σ j t).2<((st.own.put (σ k 0).1 ((st.own (σ k 0).1).w6 (σ k 0).2 (some (c'.c9 σ k)))) (σ j t).1).j5;rw[qH];exact h.sat.old _ _ _ e2
 ·intro j t j' t' c1 c2 e1 e2 hj
  obtain ⟨_,Rn⟩:=Aw _ _ _ e1;obtain ⟨_,Jr⟩:=Aw _ _ _ e2;exact h.sat.inj _ _ _ _ _ _ Rn Jr hj
 ·intro j t c1 e1 hw
  rcases hg j t c1 e1 with ⟨rfl,rfl,rfl⟩|⟨_,h2⟩
  ·exact h.sat.low _ _ _ e0 (hir hw)
  ·exact h.sat.low _ _ _ h2 hw
theorem xM {k t:Nat} {c:C3} (h:b9 M k (t+1)=some c):c.rf=true:=by
 obtain ⟨_,_,_,_,g3⟩:=NE h;obtain ⟨_,_,_,_,_,rfl⟩:=g3 t rfl;rfl
theorem RU {k j t:Nat} {c:C3} (h:b9 (w5 k M) j t=some c):j≠k/\b9 M j t=some c:=by
 obtain ⟨s,c0,g1,_⟩:=NE h;obtain ⟨h1,h2⟩:=XJ g1;refine ⟨h1,?_⟩;unfold b9 at h ⊢;rw[g1]at h;rw[h2];exact h
theorem RX.kill (h:RX σ tm M st) {k s:Nat} {c:C3} (e:c4 M k=some (s,c)) :
  RX σ tm (w5 k M) ⟨st.tm,st.own.put s ((st.own s).w6 (σ k 0).2 none)⟩:=by
 have hs:=h.sat.site _ _ _ e;subst hs;have e0:=IJ e;refine ⟨h.tm,⟨?_,?_,?_,?_,?_⟩⟩
 ·intro j s' c1 e1
  exact h.sat.site _ _ _ (XJ e1).2
 ·intro j t c1 e1
  obtain ⟨hj,e1⟩:=RU e1;refine (gL (λ he => ?_)).trans (h.sat.c9 _ _ _ e1);exact hj (h.sat.inj _ _ _ _ _ _ e1 e0 he).1
 ·intro j t c1 e1
  obtain ⟨hj,e1⟩:=RU e1;show (σ j t).2<((st.own.put (σ k 0).1 ((st.own (σ k 0).1).w6 (σ k 0).2 none)) (σ j t).1).j5;rw[qH];exact h.sat.old _ _ _ e1
 ·intro j t j' t' c1 c2 e1 e2 hj
  exact h.sat.inj _ _ _ _ _ _ (RU e1).2 (RU e2).2 hj
 ·intro j t c1 e1 hw
  exact h.sat.low _ _ _ (RU e1).2 hw
theorem RX.Xn (h:RX σ tm M st) {k s i z:Nat} {rows:List (Option (Nat × List (List AV)))} {es es':List (List AV)} (e:c4 M k=some (s,.mx rows)) (hr:rows[i]? = some (some (z,es))) (hl:es'.length=es.length) :
  RX σ tm ((k,s,.mx (rows.set i (some (z,es'))))::M) ⟨st.tm,st.own.put (σ k (i+1)).1 ((st.own (σ k (i+1)).1).w6 (σ k (i+1)).2 (some ⟨z,es'⟩))⟩:=by
 have e1:b9 M k (i+1)=some (.rw z es):=by simp [b9,e,hr]
 have hi:i<rows.length:=(zS hr).1;have mc:FC σ k 0 (rows.set i (some (z,es')))=FC σ k 0 rows:=by
  apply List.ext_getElem?;intro j;rw[ML,ML];by_cases hj:i=j
  ·subst hj;rw[List.getElem?_set_self hi,hr];simp [hl]
  ·rw[List.getElem?_set_ne hj]
 have hg : ∀ j t c1,b9 ((k,s,.mx (rows.set i (some (z,es'))))::M) j t=some c1->(j=k/\t=i+1/\c1 = .rw z es')\/(¬ (j=k/\t=i+1) /\ ∃ c2,b9 M j t=some c2/\c2.c9 σ j=c1.c9 σ j):=by
  intro j t c1 g;by_cases hj:j=k
  ·subst hj
   cases t with
   | zero =>
    rw[fY]at g;obtain rfl:=Option.some.inj g;exact Or.inr ⟨by omega,_,IJ e,by simp only[C3.c9,mc]⟩
   | succ t =>
    simp only[b9,c4,Nat.beq_refl,cond_true]at g;by_cases xp:i=t
    ·subst xp
     rw[List.getElem?_set_self hi]at g;exact Or.inl ⟨rfl,rfl,(Option.some.inj g).symm⟩
    ·rw[List.getElem?_set_ne xp]at g
     refine Or.inr ⟨by omega,c1,?_,rfl⟩;simp only[b9,e];exact g
  ·rw[XP hj]at g
   exact Or.inr ⟨by omega,c1,g,rfl⟩
 have Aw : ∀ j t c1,b9 ((k,s,.mx (rows.set i (some (z,es'))))::M) j t=some c1 -> ∃ c2,b9 M j t=some c2:=by
  intro j t c1 g;rcases hg j t c1 g with ⟨rfl,rfl,rfl⟩|⟨_,c2,h2,_⟩
  ·exact ⟨_,e1⟩
  ·exact ⟨c2,h2⟩
 refine ⟨h.tm,⟨?_,?_,?_,?_,?_⟩⟩
 ·intro j s' c1 g
  simp only[c4]at g;cases hb:Nat.beq j k<;>simp only[hb,cond_true,cond_false]at g
  ·exact h.sat.site _ _ _ g
  ·simp only[Option.some.injEq,Prod.mk.injEq]at g
   rw[EF.1 hb,<-g.1];exact h.sat.site _ _ _ e
 ·intro j t c1 g
  rcases hg j t c1 g with ⟨rfl,rfl,rfl⟩|⟨h1,c2,h2,h3⟩
  ·exact yH
  ·rw[<-h3]
   refine (gL (λ he => ?_)).trans (h.sat.c9 _ _ _ h2);exact h1 (h.sat.inj _ _ _ _ _ _ h2 e1 he)
 ·intro j t c1 g
  obtain ⟨c2,e2⟩:=Aw _ _ _ g;show (σ j t).2<((st.own.put (σ k (i+1)).1 ((st.own (σ k (i+1)).1).w6 (σ k (i+1)).2 (some ⟨z,es'⟩))) (σ j t).1).j5;rw[qH];exact h.sat.old _ _ _ e2
 ·intro j t j' t' c1 c2 g1 g2 hj
  obtain ⟨_,Rn⟩:=Aw _ _ _ g1;obtain ⟨_,Jr⟩:=Aw _ _ _ g2;exact h.sat.inj _ _ _ _ _ _ Rn Jr hj
 ·intro j t c1 g hw
  obtain ⟨c2,e2⟩:=Aw _ _ _ g;cases t with
  | zero =>
   by_cases hj:j=k
   ·subst hj;exact h.sat.low _ _ _ (IJ e) rfl
   ·rw[XP hj]at g;exact h.sat.low _ _ _ g hw
  | succ t=>exact h.sat.low _ _ _ e2 (xM e2)
section
variable {k:Nat} {f:Nat->Nat × Nat}
theorem zY {v:AV} (hf:f 0=σ k 0) (h:YF k v=false):C2 (GO σ k f) v=C2 σ v:=by
 cases v with
 | row j t z o n =>
  simp only[YF]at h;cases hb:Nat.beq j k
  ·simp only[C2,FY f (J6.1 hb)]
  ·obtain rfl:=EF.1 hb
   simp only[hb,cond_true]at h;cases t with
   | zero=>simp only[C2,EL,hf]
   | succ t=>cases h
 | ptr j t a b =>
  simp only[YF]at h;cases hb:Nat.beq j k
  ·simp only[C2,FY f (J6.1 hb)]
  ·obtain rfl:=EF.1 hb
   simp only[hb,cond_true]at h;cases t with
   | zero=>simp only[C2,EL,hf]
   | succ t=>cases h
 | _=>rfl
theorem lR (hf:f 0=σ k 0) : ∀ {cs:List AV},W5 k cs=false->cs.map (C2 (GO σ k f))=cs.map (C2 σ)
 | [],_=>rfl
 | c::r,h=>by
  simp only[W5]at h;cases h1:YF k c<;>simp only[h1,cond_true,cond_false]at h
  ·rw[List.map_cons,List.map_cons,zY hf h1,lR hf h]
  ·cases h
theorem Agc (hf:f 0=σ k 0) : ∀ {es:List (List AV)},dZ k es=false->(es.map λ cs=>cs.map (C2 (GO σ k f)))=es.map λ cs=>cs.map (C2 σ)
 | [],_=>rfl
 | c::r,h=>by
  simp only[dZ]at h;cases h1:W5 k c<;>simp only[h1,cond_true,cond_false]at h
  ·rw[List.map_cons,List.map_cons,lR hf h1,Agc hf h]
  ·cases h
theorem lT {v:AV} (hf:f 0=σ k 0) (h:bC k v=false):DK (GO σ k f) v=DK σ v:=by
 cases v with
 | agg cs=>simp only[bC]at h;simp only[DK,lR hf h]
 | fn p f g cs=>simp only[bC]at h;simp only[DK,lR hf h]
 | row a b c d e=>exact zY (v := .row a b c d e) hf h
 | ptr a b c d=>exact zY (v := .ptr a b c d) hf h
 | _=>rfl
theorem Agd (hf:f 0=σ k 0) : ∀ {cs:List AV},dY k cs=false->cs.map (DK (GO σ k f))=cs.map (DK σ)
 | [],_=>rfl
 | c::r,h=>by
  simp only[dY]at h;cases h1:bC k c<;>simp only[h1,cond_true,cond_false]at h
  ·rw[List.map_cons,List.map_cons,lT hf h1,Agd hf h]
  ·cases h
theorem AqN {v:AV} (hf:f 0=σ k 0) (h:ZP k v=false):C8 (GO σ k f) v=C8 σ v:=by
 cases v with
 | g8 cs=>simp only[ZP]at h;simp only[C8,Agd hf h]
 | agg cs=>exact lT (v := .agg cs) hf h
 | fn p f g cs=>exact lT (v := .fn p f g cs) hf h
 | row a b c d e=>exact lT (v := .row a b c d e) hf h
 | ptr a b c d=>exact lT (v := .ptr a b c d) hf h
 | _=>rfl
theorem Abl : ∀ {tm:Tm},W6 k tm=false -> ∀ j,ZP k (tg tm j)=false
 | [],_,_=>rfl
 | (i,v)::r,h,j=>by
  simp only[W6]at h;cases h1:ZP k v<;>simp only[h1,cond_true,cond_false]at h
  ·simp only[tg]
   cases Nat.beq j i
   ·exact Abl h j
   ·exact h1
  ·cases h
theorem Abi : ∀ {M:Mem},PV k M=false -> ∀ j s c,c4 M j=some (s,c)->YG k c=false
 | [],_,_,_,_,e=>by cases e
 | (i,s0,c0)::r,h,j,s,c,e=>by
  simp only[PV]at h;cases h1:YG k c0<;>simp only[h1,cond_true,cond_false]at h
  ·simp only[c4]at e
   cases h2:Nat.beq j i<;>simp only[h2,cond_true,cond_false]at e
   ·exact Abi h j s c e
   ·simp only[Option.some.injEq,Prod.mk.injEq]at e
    obtain ⟨_,rfl⟩:=e;exact h1
  ·cases h
theorem Ajv {c:C3} {j:Nat} (hf:f 0=σ k 0) (h:YG k c=false) (hj:j≠k):c.c9 (GO σ k f) j=c.c9 σ j:=by
 cases c with
 | bx cs=>simp only[YG]at h;simp only[C3.c9,lR hf h]
 | rw z es=>rfl
 | bs z es=>simp only[YG]at h;simp only[C3.c9,Agc hf h]
 | mx rows=>simp only[C3.c9];rw[Z9 rows 0 λ i _=>by rw[FY f hj]]
 | hx a v rows=>simp only[C3.c9];rw[Z9 rows 0 λ i _=>by rw[FY f hj]]
 | vw w rows=>simp only[C3.c9];rw[Z9 rows 0 λ i _=>by rw[FY f hj]]
end
theorem RX.Hi (h:RX σ tm M st) {k k2 s s2 i z:Nat} {rows:List (Option (Nat × List (List AV)))} {es:List (List AV)} {c0:C3} (e:c4 M k=some (s,c0)) (jb:c0 = .mx rows \/ ∃ v,c0 = .hx i v rows) (e2:c4 M k2=some (s2,.rw z es)) (hk:k≠k2) (eo:W6 k tm=false) (qg:PV k M=false) (hi:i<rows.length) :
  RX (GO σ k λ t=>if t=i+1 then σ k2 0 else σ k t) tm ((k,s,.mx (rows.set i (some (z,es))))::w5 k2 M) ⟨st.tm,st.own.put s ((st.own s).w6 (σ k 0).2 (some ⟨1,(FC σ k 0 rows).set i [.row (σ k2 0).1 (σ k2 0).2 z 0 es.length]⟩))⟩:=by
 have hs:=h.sat.site _ _ _ e;subst hs;have r0:=IJ e;have r2:=IJ e2;have f0:(λ t=>if t=i+1 then σ k2 0 else σ k t) 0=σ k 0:=by simp
 have mc:FC (GO σ k λ t=>if t=i+1 then σ k2 0 else σ k t) k 0 (rows.set i (some (z,es)))=(FC σ k 0 rows).set i [.row (σ k2 0).1 (σ k2 0).2 z 0 es.length]:=by
  apply List.ext_getElem?;intro j;rw[ML,EL];by_cases hj:i=j
  ·subst hj
   rw[List.getElem?_set_self hi,List.getElem?_set_self (by rw[KT];exact hi)];simp
  ·rw[List.getElem?_set_ne hj,List.getElem?_set_ne hj,ML]
   congr 1;funext r
   cases r with
   | none=>rfl
   | some x=>simp only[Nat.zero_add];rw[if_neg (by omega)]
 have hg : ∀ j t c,b9 ((k,(σ k 0).1,.mx (rows.set i (some (z,es))))::w5 k2 M) j t=some c ->
   (j=k/\t=0/\c = .mx (rows.set i (some (z,es))))\/(j=k/\t=i+1/\c = .rw z es)\/(j=k/\t≠0/\t≠i+1/\b9 M k t=some c)\/(j≠k/\j≠k2/\b9 M j t=some c):=by
  intro j t c g;by_cases hj:j=k
  ·subst hj
   cases t with
   | zero=>rw[fY]at g;exact Or.inl ⟨rfl,rfl,(Option.some.inj g).symm⟩
   | succ t =>
    simp only[b9,c4,Nat.beq_refl,cond_true]at g;by_cases xp:i=t
    ·subst xp
     rw[List.getElem?_set_self hi]at g;exact Or.inr (Or.inl ⟨rfl,rfl,(Option.some.inj g).symm⟩)
    ·rw[List.getElem?_set_ne xp]at g
     refine Or.inr (Or.inr (Or.inl ⟨rfl,by omega,by omega,?_⟩));rcases jb with rfl|⟨v,rfl⟩
     ·simp only[b9,e]
      exact g
     ·simp only[b9,e]
      exact g
  ·rw[XP hj]at g
   obtain ⟨g1,g2⟩:=RU g;exact Or.inr (Or.inr (Or.inr ⟨hj,g1,g2⟩))
 have hch : ∀ j t c,b9 M j t=some c->YG k c=false:=by
  intro j t c g;obtain ⟨s1,c0,g1,g2,g3⟩:=NE g;cases t with
  | zero=>rw[g2 rfl];exact Abi qg _ _ _ g1
  | succ t=>obtain ⟨_,_,_,_,_,rfl⟩:=g3 t rfl;rfl
 refine ⟨λ j => ?_,⟨?_,?_,?_,?_,?_⟩⟩
 ·rw[AqN (f:=λ t=>if t=i+1 then σ k2 0 else σ k t) f0 (Abl eo j)];exact h.tm j
 ·intro j s' c g
  simp only[c4]at g;cases hb:Nat.beq j k<;>simp only[hb,cond_true,cond_false]at g
  ·rw[FY _ (J6.1 hb)];exact h.sat.site _ _ _ (XJ g).2
  ·simp only[Option.some.injEq,Prod.mk.injEq]at g
   rw[EF.1 hb,EL,<-g.1];simp
 ·intro j t c g
  rcases hg j t c g with ⟨rfl,rfl,rfl⟩|⟨rfl,rfl,rfl⟩|⟨rfl,h0,h1,g2⟩|⟨h0,h1,g2⟩
  ·rw[EL]
   simp only[C3.c9,mc];exact yH
  ·rw[EL]
   simp only[if_true];exact (gL (λ he=>hk (h.sat.inj _ _ _ _ _ _ r2 r0 he).1.symm)).trans (h.sat.c9 _ _ _ r2)
  ·rw[EL]
   simp only[h1,if_false];have hb:c.c9 (GO σ j λ t=>if t=i+1 then σ k2 0 else σ j t) j=c.c9 σ j:=by
    obtain ⟨_,_,_,_,g3⟩:=NE g2;obtain ⟨t',rfl⟩ : ∃ t',t=t'+1:=⟨t-1,by omega⟩;obtain ⟨_,_,_,_,_,rfl⟩:=g3 t' rfl;rfl
   rw[hb];exact (gL (λ he=>h0 (h.sat.inj _ _ _ _ _ _ g2 r0 he).2)).trans (h.sat.c9 _ _ _ g2)
  ·rw[FY _ h0,Ajv (f:=λ t=>if t=i+1 then σ k2 0 else σ k t) f0 (hch _ _ _ g2) h0]
   exact (gL (λ he=>h0 (h.sat.inj _ _ _ _ _ _ g2 r0 he).1)).trans (h.sat.c9 _ _ _ g2)
 ·intro j t c g
  rw[qH];rcases hg j t c g with ⟨rfl,rfl,rfl⟩|⟨rfl,rfl,rfl⟩|⟨rfl,h0,h1,g2⟩|⟨h0,h1,g2⟩
  ·rw[EL];simpa using h.sat.old _ _ _ r0
  ·rw[EL];simpa using h.sat.old _ _ _ r2
  ·rw[EL];simp only[h1,if_false];exact h.sat.old _ _ _ g2
  ·rw[FY _ h0];exact h.sat.old _ _ _ g2
 ·-- each name is that of Jg in the old memory
  have hold : ∀ j t c,b9 ((k,(σ k 0).1,.mx (rows.set i (some (z,es))))::w5 k2 M) j t=some c -> ∃ j0 t0 c0,b9 M j0 t0=some c0/\(GO σ k λ t=>if t=i+1 then σ k2 0 else σ k t) j t=σ j0 t0/\((j0=k2/\t0=0/\j=k/\t=i+1)\/(j0=j/\t0=t/\j≠k2)):=by
   intro j t c g;rcases hg j t c g with ⟨rfl,rfl,rfl⟩|⟨rfl,rfl,rfl⟩|⟨rfl,h0,h1,g2⟩|⟨h0,h1,g2⟩
   ·exact ⟨_,_,_,r0,by rw[EL];simp,Or.inr ⟨rfl,rfl,hk⟩⟩
   ·exact ⟨_,_,_,r2,by rw[EL];simp,Or.inl ⟨rfl,rfl,rfl,rfl⟩⟩
   ·exact ⟨_,_,_,g2,by rw[EL];simp [h1],Or.inr ⟨rfl,rfl,hk⟩⟩
   ·exact ⟨_,_,_,g2,by rw[FY _ h0],Or.inr ⟨rfl,rfl,h1⟩⟩
  intro j t j' t' c c' g g' hj;obtain ⟨j0,t0,c0,a1,a2,a3⟩:=hold j t c g;obtain ⟨j1,t1,c1,b1,b2,b3⟩:=hold j' t' c' g';rw[a2,b2]at hj;obtain ⟨q1,q2⟩:=h.sat.inj _ _ _ _ _ _ a1 b1 hj;rcases a3 with ⟨x1,x2,x3,x4⟩|⟨x1,x2,x3⟩<;>rcases b3 with ⟨y1,y2,y3,y4⟩|⟨y1,y2,y3⟩
  ·exact ⟨x3.trans y3.symm,x4.trans y4.symm⟩
  ·exact absurd (y1.symm.trans (q1.symm.trans x1)) y3
  ·exact absurd (x1.symm.trans (q1.trans y1)) x3
  ·exact ⟨x1.symm.trans (q1.trans y1),x2.symm.trans (q2.trans y2)⟩
 ·intro j t c g hw
  rcases hg j t c g with ⟨rfl,rfl,rfl⟩|⟨rfl,rfl,rfl⟩|⟨rfl,h0,h1,g2⟩|⟨h0,h1,g2⟩
  ·rw[EL];simpa using h.sat.low _ _ _ r0 (by rcases jb with rfl|⟨v,rfl⟩<;>rfl)
  ·rw[EL];simpa using h.sat.low _ _ _ r2 rfl
  ·rw[EL];simp only[h1,if_false];exact h.sat.low _ _ _ g2 hw
  ·rw[FY _ h0];exact h.sat.low _ _ _ g2 hw
theorem bZ {own:BD} {q t:Nat} {b:HU} {p:Nat × Nat} (h:p≠(q,t)) (ho:p.2<(own p.1).j5):((own.put q (((own q).w6 t none).new b)) p.1).c9 p.2=(own p.1).c9 p.2:=by
 by_cases hs:p.1=q
 ·rw[hs]at ho ⊢
  rw[BD.l6];simp only[E4.new,E4.w6];have h1 : ¬ p.2=(own q).j5:=by omega
  have h2 : ¬ p.2=t:=λ e=>h (Prod.ext hs e)
  simp only[h1,h2,if_false]
 ·rw[BD.jq _ _ _ _ hs]
theorem cA {own:BD} {q t:Nat} {b:HU} (s:Nat):(own s).j5<=((own.put q (((own q).w6 t none).new b)) s).j5:=by
 by_cases hs:s=q
 ·subst hs;rw[BD.l6];simp only[E4.new,E4.w6];omega
 ·rw[BD.jq _ _ _ _ hs];exact Nat.le_refl _
theorem RX.Rg (h:RX σ tm M st) {s key sk i z:Nat} {rows:List (Option (Nat × List (List AV)))} {es es':List (List AV)} (e:c4 M key=some (sk,.mx rows)) (hr:rows[i]? = some (some (z,es))) (hm:L5 s M=false) (ht:NI s tm=false) :
  RX (GO σ s λ_=>((σ key (i+1)).1,st.own.j5 (σ key (i+1)).1)) tm ((s,(σ key (i+1)).1,.rw z es')::(key,sk,.hx i (.row (σ key (i+1)).1 (σ key (i+1)).2 z 0 es.length) (rows.set i none))::w5 key M)
   ⟨st.tm,st.own.put (σ key (i+1)).1 (((st.own (σ key (i+1)).1).w6 (σ key (i+1)).2 none).new ⟨z,es'⟩)⟩:=by
 have r0:=IJ e;have e1:b9 M key (i+1)=some (.rw z es):=by simp [b9,e,hr]
 have hi:i<rows.length:=(zS hr).1;have Lp:key≠s:=(cP hm _ _ _ e).1;have mc:(FC (GO σ s λ_=>((σ key (i+1)).1,st.own.j5 (σ key (i+1)).1)) key 0 (rows.set i none)).set i [.row (σ key (i+1)).1 (σ key (i+1)).2 z 0 es.length]=FC σ key 0 rows:=by
  apply List.ext_getElem?;intro j;by_cases hj:i=j
  ·subst hj
   rw[List.getElem?_set_self (by rw[KT,List.length_set];exact hi),ML,hr];simp
  ·rw[List.getElem?_set_ne hj,ML,ML,List.getElem?_set_ne hj,FY _ Lp]
 have Gu : ∀ j t c',b9 M j t=some c'->NH s c'=false/\j≠s:=by
  intro j t c' g;obtain ⟨s1,c0,g1,g2,g3⟩:=NE g;obtain ⟨g4,g5⟩:=cP hm _ _ _ g1;refine ⟨?_,g4⟩;cases t with
  | zero=>rw[g2 rfl];exact g5
  | succ i=>obtain ⟨rows,z,es,_,_,rfl⟩:=g3 i rfl;rfl
 have hg : ∀ j t c,b9 ((s,(σ key (i+1)).1,.rw z es')::(key,sk,.hx i (.row (σ key (i+1)).1 (σ key (i+1)).2 z 0 es.length) (rows.set i none))::w5 key M) j t=some c ->
   (j=s/\t=0/\c = .rw z es')\/(j=key/\t=0/\c = .hx i (.row (σ key (i+1)).1 (σ key (i+1)).2 z 0 es.length) (rows.set i none))\/(j≠s /\ ¬ (j=key/\t=0) /\ ¬ (j=key/\t=i+1)/\(j=key -> ∃ z es,c = .rw z es)/\b9 M j t=some c):=by
  intro j t c g;by_cases hj:j=s
  ·subst hj
   obtain ⟨rfl,rfl⟩:=fZ (c := .rw z es') trivial g;exact Or.inl ⟨rfl,rfl,rfl⟩
  ·rw[XP hj]at g
   by_cases hk:j=key
   ·subst hk
    cases t with
    | zero=>rw[fY]at g;exact Or.inr (Or.inl ⟨rfl,rfl,(Option.some.inj g).symm⟩)
    | succ t =>
     simp only[b9,c4,Nat.beq_refl,cond_true]at g;by_cases xp:i=t
     ·subst xp
      rw[List.getElem?_set_self hi]at g;cases g
     ·rw[List.getElem?_set_ne xp]at g
      refine Or.inr (Or.inr ⟨hj,by omega,by omega,λ_ => ?_,?_⟩)
      ·split at g
       ·exact ⟨_,_,(Option.some.inj g).symm⟩
       ·cases g
      ·simp only[b9,e]
       exact g
   ·rw[XP hk]at g
    obtain ⟨g1,g2⟩:=RU g;exact Or.inr (Or.inr ⟨hj,by omega,by omega,λ h=>absurd h hk,g2⟩)
 refine ⟨λ j => ?_,⟨?_,?_,?_,?_,?_⟩⟩
 ·rw[rK (gP ht j)];exact h.tm j
 ·intro j s1 c g
  simp only[c4]at g;cases hb:Nat.beq j s<;>simp only[hb,cond_true,cond_false]at g
  ·rw[FY _ (J6.1 hb)]
   cases z7:Nat.beq j key<;>simp only[z7,cond_true,cond_false]at g
   ·exact h.sat.site _ _ _ (XJ g).2
   ·simp only[Option.some.injEq,Prod.mk.injEq]at g
    rw[EF.1 z7,<-g.1];exact h.sat.site _ _ _ e
  ·simp only[Option.some.injEq,Prod.mk.injEq]at g
   rw[EF.1 hb,EL,<-g.1]
 ·intro j t c g
  rcases hg j t c g with ⟨rfl,rfl,rfl⟩|⟨rfl,rfl,rfl⟩|⟨h0,h1,h2,h3,g2⟩
  ·rw[EL]
   simp [BD.l6,E4.new,BD.j5,E4.w6,C3.c9]
  ·rw[FY _ Lp]
   simp only[C3.c9,mc];exact (bZ (λ he=>absurd (h.sat.inj _ _ _ _ _ _ r0 e1 he).2 (by omega)) (h.sat.old _ _ _ r0)).trans (h.sat.c9 _ _ _ r0)
  ·rw[FY _ h0,nJ (Gu _ _ _ g2).1 h0]
   exact (bZ (λ he=>h2 (h.sat.inj _ _ _ _ _ _ g2 e1 he)) (h.sat.old _ _ _ g2)).trans (h.sat.c9 _ _ _ g2)
 ·intro j t c g
  rcases hg j t c g with ⟨rfl,rfl,rfl⟩|⟨rfl,rfl,rfl⟩|⟨h0,h1,h2,h3,g2⟩
  ·rw[EL]
   simp [BD.l6,E4.new,BD.j5,E4.w6]
  ·rw[FY _ Lp]
   exact Nat.lt_of_lt_of_le (h.sat.old _ _ _ r0) (cA _)
  ·rw[FY _ h0]
   exact Nat.lt_of_lt_of_le (h.sat.old _ _ _ g2) (cA _)
 ·have hold : ∀ j t c,b9 ((s,(σ key (i+1)).1,.rw z es')::(key,sk,.hx i (.row (σ key (i+1)).1 (σ key (i+1)).2 z 0 es.length) (rows.set i none))::w5 key M) j t=some c->(j=s/\t=0)\/(j≠s /\ ∃ c0,b9 M j t=some c0):=by
   intro j t c g;rcases hg j t c g with ⟨rfl,rfl,rfl⟩|⟨rfl,rfl,rfl⟩|⟨h0,h1,h2,h3,g2⟩
   ·exact Or.inl ⟨rfl,rfl⟩
   ·exact Or.inr ⟨Lp,_,r0⟩
   ·exact Or.inr ⟨h0,_,g2⟩
  have rh : ∀ j0 t0 c0,b9 M j0 t0=some c0->((σ key (i+1)).1,st.own.j5 (σ key (i+1)).1)≠σ j0 t0:=by
   intro j0 t0 c0 g he;have:=h.sat.old _ _ _ g
   rw[<-he]at this;exact absurd this (Nat.lt_irrefl _)
  intro j t j' t' c c' g g' hj;rcases hold j t c g with ⟨rfl,rfl⟩|⟨a1,c1,a2⟩<;>rcases hold j' t' c' g' with ⟨rfl,rfl⟩|⟨b1,c2,b2⟩
  ·exact ⟨rfl,rfl⟩
  ·rw[EL,FY _ b1]at hj;exact absurd hj (rh _ _ _ b2)
  ·rw[EL,FY _ a1]at hj;exact absurd hj.symm (rh _ _ _ a2)
  ·rw[FY _ a1,FY _ b1]at hj
   exact h.sat.inj _ _ _ _ _ _ a2 b2 hj
 ·intro j t c g hw
  rcases hg j t c g with ⟨rfl,rfl,rfl⟩|⟨rfl,rfl,rfl⟩|⟨h0,h1,h2,h3,g2⟩
  ·rw[EL];exact h.sat.low _ _ _ e1 rfl
  ·rw[FY _ Lp];exact h.sat.low _ _ _ r0 rfl
  ·rw[FY _ h0];exact h.sat.low _ _ _ g2 hw
theorem RX.Ri (h:RX σ tm M st) {s key s':Nat} {rows:List (Option (Nat × List (List AV)))} (e:c4 M key=some (s',.mx rows)) (hm:L5 s M=false) (ht:NI s tm=false) :
  RX (GO σ s λ t=>match t with|0=>(s',st.own.j5 s')|i+1=>σ key (i+1)) tm ((s,s',.mx (rows++[none]))::w5 key M)
   ⟨st.tm,st.own.put s' (((st.own s').w6 (σ key 0).2 none).new ⟨1,FC σ key 0 rows++[[.nil]]⟩)⟩:=by
 have hs:=h.sat.site _ _ _ e;subst hs;have r0:=IJ e;generalize hF:(λ t=>match t with|0=>((σ key 0).1,st.own.j5 (σ key 0).1)|i+1=>σ key (i+1):Nat->Nat × Nat)=F;have F0:F 0=((σ key 0).1,st.own.j5 (σ key 0).1):=by rw[<-hF]
 have F1 : ∀ i,F (i+1)=σ key (i+1):=by intro i;rw[<-hF]
 have mc:FC (GO σ s F) s 0 (rows++[none])=FC σ key 0 rows++[[.nil]]:=by
  apply List.ext_getElem?;intro j;rw[ML,EL];rcases Nat.lt_trichotomy j rows.length with hj|hj|hj
  ·rw[List.getElem?_append_left hj,List.getElem?_append_left (by rw[KT];exact hj),ML]
   congr 1;funext r
   cases r with
   | none=>rfl
   | some x=>simp only[Nat.zero_add];rw[F1]
  ·subst hj
   rw[List.getElem?_append_right (Nat.le_refl _),List.getElem?_append_right (by rw[KT];exact Nat.le_refl _),KT];simp
  ·rw[List.getElem?_eq_none (by simp;omega),List.getElem?_eq_none (by simp [KT];omega)];rfl
 have Gu : ∀ j t c',b9 M j t=some c'->NH s c'=false/\j≠s:=by
  intro j t c' g;obtain ⟨s1,c0,g1,g2,g3⟩:=NE g;obtain ⟨g4,g5⟩:=cP hm _ _ _ g1;refine ⟨?_,g4⟩;cases t with
  | zero=>rw[g2 rfl];exact g5
  | succ i=>obtain ⟨rows,z,es,_,_,rfl⟩:=g3 i rfl;rfl
 have hg : ∀ j t c,b9 ((s,(σ key 0).1,.mx (rows++[none]))::w5 key M) j t=some c ->
   (j=s/\t=0/\c = .mx (rows++[none]))\/(j=s/\t≠0/\b9 M key t=some c)\/(j≠s/\j≠key/\b9 M j t=some c):=by
  intro j t c g;by_cases hj:j=s
  ·subst hj
   cases t with
   | zero=>rw[fY]at g;exact Or.inl ⟨rfl,rfl,(Option.some.inj g).symm⟩
   | succ t =>
    simp only[b9,c4,Nat.beq_refl,cond_true]at g;rcases Nat.lt_trichotomy t rows.length with pd|pd|pd
    ·rw[List.getElem?_append_left pd]at g
     refine Or.inr (Or.inl ⟨rfl,by omega,?_⟩);simp only[b9,e];exact g
    ·subst pd
     rw[List.getElem?_append_right (Nat.le_refl _),Nat.sub_self]at g;simp at g
    ·rw[List.getElem?_eq_none (by simp;omega)]at g;cases g
  ·rw[XP hj]at g
   obtain ⟨g1,g2⟩:=RU g;exact Or.inr (Or.inr ⟨hj,g1,g2⟩)
 refine ⟨λ j => ?_,⟨?_,?_,?_,?_,?_⟩⟩
 ·rw[rK (gP ht j)];exact h.tm j
 ·intro j s1 c g
  simp only[c4]at g;cases hb:Nat.beq j s<;>simp only[hb,cond_true,cond_false]at g
  ·rw[FY _ (J6.1 hb)];exact h.sat.site _ _ _ (XJ g).2
  ·simp only[Option.some.injEq,Prod.mk.injEq]at g
   rw[EF.1 hb,EL,F0,<-g.1]
 ·intro j t c g
  rcases hg j t c g with ⟨rfl,rfl,rfl⟩|⟨rfl,h0,g2⟩|⟨h0,h1,g2⟩
  ·rw[EL,F0]
   simp only[C3.c9,mc];simp [BD.l6,E4.new,BD.j5,E4.w6]
  ·obtain ⟨t',rfl⟩ : ∃ t',t=t'+1:=⟨t-1,by omega⟩
   rw[EL,F1];have hb:c.c9 (GO σ j F) j=c.c9 σ key:=by
    obtain ⟨_,_,_,_,g3⟩:=NE g2;obtain ⟨_,_,_,_,_,rfl⟩:=g3 t' rfl;rfl
   rw[hb];exact (bZ (λ he=>absurd (h.sat.inj _ _ _ _ _ _ g2 r0 he).2 (by omega)) (h.sat.old _ _ _ g2)).trans (h.sat.c9 _ _ _ g2)
  ·rw[FY _ h0,nJ (Gu _ _ _ g2).1 h0]
   exact (bZ (λ he=>h1 (h.sat.inj _ _ _ _ _ _ g2 r0 he).1) (h.sat.old _ _ _ g2)).trans (h.sat.c9 _ _ _ g2)
 ·intro j t c g
  rcases hg j t c g with ⟨rfl,rfl,rfl⟩|⟨rfl,h0,g2⟩|⟨h0,h1,g2⟩
  ·rw[EL,F0]
   simp [BD.l6,E4.new,BD.j5,E4.w6]
  ·obtain ⟨t',rfl⟩ : ∃ t',t=t'+1:=⟨t-1,by omega⟩
   rw[EL,F1];exact Nat.lt_of_lt_of_le (h.sat.old _ _ _ g2) (cA _)
  ·rw[FY _ h0]
   exact Nat.lt_of_lt_of_le (h.sat.old _ _ _ g2) (cA _)
 ·have hold : ∀ j t c,b9 ((s,(σ key 0).1,.mx (rows++[none]))::w5 key M) j t=some c->(j=s/\t=0) \/ ∃ j0 t0 c0,b9 M j0 t0=some c0/\GO σ s F j t=σ j0 t0/\((j0=key/\t0=t/\j=s)\/(j0=j/\t0=t/\j≠key)):=by
   intro j t c g;rcases hg j t c g with ⟨rfl,rfl,rfl⟩|⟨rfl,h0,g2⟩|⟨h0,h1,g2⟩
   ·exact Or.inl ⟨rfl,rfl⟩
   ·obtain ⟨t',rfl⟩ : ∃ t',t=t'+1:=⟨t-1,by omega⟩
    exact Or.inr ⟨_,_,_,g2,by rw[EL,F1],Or.inl ⟨rfl,rfl,rfl⟩⟩
   ·exact Or.inr ⟨_,_,_,g2,by rw[FY _ h0],Or.inr ⟨rfl,rfl,h1⟩⟩
  have rh : ∀ j0 t0 c0,b9 M j0 t0=some c0->GO σ s F s 0≠σ j0 t0:=by
   intro j0 t0 c0 g he;rw[EL,F0]at he;have:=h.sat.old _ _ _ g
   rw[<-he]at this;exact absurd this (Nat.lt_irrefl _)
  intro j t j' t' c c' g g' hj;rcases hold j t c g with ⟨rfl,rfl⟩|⟨j0,t0,c0,a1,a2,a3⟩<;>rcases hold j' t' c' g' with ⟨rfl,rfl⟩|⟨j1,t1,c1,b1,b2,b3⟩
  ·exact ⟨rfl,rfl⟩
  ·rw[b2]at hj;exact absurd hj (rh _ _ _ b1)
  ·rw[a2]at hj;exact absurd hj.symm (rh _ _ _ a1)
  ·rw[a2,b2]at hj
   obtain ⟨q1,q2⟩:=h.sat.inj _ _ _ _ _ _ a1 b1 hj;rcases a3 with ⟨x1,x2,x3⟩|⟨x1,x2,x3⟩<;>rcases b3 with ⟨y1,y2,y3⟩|⟨y1,y2,y3⟩
   ·exact ⟨x3.trans y3.symm,x2.symm.trans (q2.trans y2)⟩
   ·exact absurd (y1.symm.trans (q1.symm.trans x1)) y3
   ·exact absurd (x1.symm.trans (q1.trans y1)) x3
   ·exact ⟨x1.symm.trans (q1.trans y1),x2.symm.trans (q2.trans y2)⟩
 ·intro j t c g hw
  rcases hg j t c g with ⟨rfl,rfl,rfl⟩|⟨rfl,h0,g2⟩|⟨h0,h1,g2⟩
  ·rw[EL,F0];exact h.sat.low _ _ _ r0 rfl
  ·obtain ⟨t',rfl⟩ : ∃ t',t=t'+1:=⟨t-1,by omega⟩
   rw[EL,F1];exact h.sat.low _ _ _ g2 hw
  ·rw[FY _ h0];exact h.sat.low _ _ _ g2 hw
theorem tH {k:Nat} {v:AV} (h:V3 k v=false):YF k v=false:=by
 cases v with
 | row j t z o n=>simp only[V3]at h;simp only[YF,h,cond_false]
 | ptr j t a b=>simp only[V3]at h;simp only[YF,h,cond_false]
 | _=>rfl
theorem iZ {k:Nat} : ∀ {cs:List AV},N7 k cs=false->W5 k cs=false
 | [],_=>rfl
 | c::r,h=>by
  simp only[N7]at h;cases h1:V3 k c<;>simp only[h1,cond_true,cond_false]at h
  ·simp only[W5,tH h1,cond_false,iZ h]
  ·cases h
theorem Abh {k:Nat} : ∀ {es:List (List AV)},aD k es=false->dZ k es=false
 | [],_=>rfl
 | c::r,h=>by
  simp only[aD]at h;cases h1:N7 k c<;>simp only[h1,cond_true,cond_false]at h
  ·simp only[dZ,iZ h1,cond_false,Abh h]
  ·cases h
theorem iY {k:Nat} {v:AV} (h:Y2 k v=false):bC k v=false:=by
 cases v with
 | agg cs=>exact iZ h
 | fn p f g cs=>exact iZ h
 | row a b c d e=>exact tH (v := .row a b c d e) h
 | ptr a b c d=>exact tH (v := .ptr a b c d) h
 | _=>rfl
theorem Abg {k:Nat} : ∀ {cs:List AV},gO k cs=false->dY k cs=false
 | [],_=>rfl
 | c::r,h=>by
  simp only[gO]at h;cases h1:Y2 k c<;>simp only[h1,cond_true,cond_false]at h
  ·simp only[dY,iY h1,cond_false,Abg h]
  ·cases h
theorem AjE {k:Nat} {v:AV} (h:V4 k v=false):ZP k v=false:=by
 cases v with
 | g8 cs=>exact Abg h
 | agg cs=>exact iY (v := .agg cs) h
 | fn p f g cs=>exact iY (v := .fn p f g cs) h
 | row a b c d e=>exact iY (v := .row a b c d e) h
 | ptr a b c d=>exact iY (v := .ptr a b c d) h
 | _=>rfl
theorem Abk {k:Nat} : ∀ {tm:Tm},NI k tm=false->W6 k tm=false
 | [],_=>rfl
 | (i,v)::r,h=>by
  simp only[NI]at h;cases h1:V4 k v<;>simp only[h1,cond_true,cond_false]at h
  ·simp only[W6,AjE h1,cond_false,Abk h]
  ·cases h
theorem Abj {k:Nat} : ∀ {M:Mem},L5 k M=false->PV k M=false
 | [],_=>rfl
 | (i,s,c)::r,h=>by
  simp only[L5]at h;cases h0:Nat.beq k i<;>simp only[h0,cond_true,cond_false]at h
  ·cases h1:NH k c<;>simp only[h1,cond_true,cond_false]at h
   ·have:YG k c=false:=by
     cases c with
     | bx cs=>exact iZ h1
     | bs z es=>exact Abh h1
     | _=>rfl
    simp only[PV,this,cond_false,Abj h]
   ·cases h
  ·cases h
theorem RX.hid {M1 M2:Mem} (hm : ∀ k,c4 M1 k=c4 M2 k) (h:RX σ tm M1 st):RX σ tm M2 st:=by
 have hr : ∀ k t,b9 M1 k t=b9 M2 k t:=λ k t=>by simp only[b9,hm]
 refine ⟨h.tm,⟨λ k s c e => ?_,λ k t c e => ?_,λ k t c e => ?_,λ k t k' t' c c' e e' => ?_,λ k t c e hw => ?_⟩⟩
 ·rw[<-hm]at e;exact h.sat.site _ _ _ e
 ·rw[<-hr]at e;exact h.sat.c9 _ _ _ e
 ·rw[<-hr]at e;exact h.sat.old _ _ _ e
 ·rw[<-hr]at e e';exact h.sat.inj _ _ _ _ _ _ e e'
 ·rw[<-hr]at e;exact h.sat.low _ _ _ e hw
theorem RX.Xm (h:RX σ tm M st) {s q k2 s2 z:Nat} {es:List (List AV)} (e2:c4 M k2=some (s2,.rw z es)) (hk:s≠k2) (hm:L5 s M=false) (ht:NI s tm=false) (hq:J9 q=true) :
  ∃ σ',σ' s 0=(q,st.own.j5 q)/\RX σ' tm ((s,q,.mx [some (z,es)])::w5 k2 M) ⟨st.tm,st.own.put q ((st.own q).new ⟨1,[[.row (σ k2 0).1 (σ k2 0).2 z 0 es.length]]⟩)⟩:=by
 have jf:C3.flat (.mx [none]):=by
  intro i x hx;cases i with
  | zero=>simp at hx
  | succ i=>simp at hx
 have h1:=h.mn (s:=s) (q:=q) hm ht (.mx [none]) jf rfl (λ_=>hq);have Jr:c4 ((s,q,.mx [none])::M) k2=some (s2,.rw z es):=by
  simp only[c4,J6.2 (λ e=>hk e.symm),cond_false];exact e2
 have qg:PV s ((s,q,.mx [none])::M)=false:=by simp only[PV,YG,cond_false,Abj hm]
 have h2:=h1.Hi (k:=s) (s:=q) (k2:=k2) (i:=0) (rows:=[none]) (c0 := .mx [none]) (by simp [c4]) (Or.inl rfl) Jr hk (Abk ht) qg (by simp);refine ⟨GO σ s (λ t=>if t=0+1 then σ k2 0 else (q,st.own.j5 q)),?_,?_⟩
 ·rw[EL];simp
 ·have hσ:(GO (GO σ s λ_=>(q,st.own.j5 q)) s λ t=>if t=0+1 then (GO σ s λ_=>(q,st.own.j5 q)) k2 0 else (GO σ s λ_=>(q,st.own.j5 q)) s t)=GO σ s (λ t=>if t=0+1 then σ k2 0 else (q,st.own.j5 q)):=by
   funext j t
   by_cases hj:j=s
   ·subst hj;rw[EL,EL];simp only[EL,FY _ (λ e=>hk e.symm)]
   ·rw[FY _ hj,FY _ hj,FY _ hj]
  rw[hσ]at h2;have hM:w5 k2 ((s,q,C3.mx [none])::M)=(s,q,.mx [none])::w5 k2 M:=by
   simp only[w5,J6.2 (λ e=>hk e.symm),cond_false]
  rw[hM]at h2;have ho : ∀ b b':HU,(st.own.put q ((st.own q).new b)).put q (((st.own.put q ((st.own q).new b)) q).w6 (st.own.j5 q) (some b'))=st.own.put q ((st.own q).new b'):=by
   intro b b';rw[BD.vl,BD.l6];congr 1;simp only[E4.w6,E4.new,BD.j5,E4.mk.injEq,true_and];funext t'
   by_cases pd:t'=(st.own q).j5<;>simp [pd]
  have hn:(GO σ s λ_=>(q,st.own.j5 q)) s 0=(q,st.own.j5 q):=by rw[EL]
  have np:(GO σ s λ_=>(q,st.own.j5 q)) k2=σ k2:=FY _ (λ e=>hk e.symm);simp only[hn,np]at h2;rw[ho]at h2;refine RX.hid (λ k => ?_) h2;simp only[c4];cases Nat.beq k s<;>rfl
theorem RX.Rh (h:RX σ tm M st) {s key k2 ky s' s2 z:Nat} {rows:List (Option (Nat × List (List AV)))} {es:List (List AV)} (e:c4 M key=some (s',.mx rows)) (e2:c4 M k2=some (s2,.rw z es)) (hk:key≠k2) (hm:L5 s M=false) (ht:NI s tm=false) :
  RX (GO σ s λ t=>match t with|0=>(s',st.own.j5 s')|i+1=>if i=rows.length then σ k2 0 else σ key (i+1)) tm ((s,s',.mx (rows++[some (z,es)]))::w5 key (w5 k2 (w5 ky M)))
   ⟨st.tm,st.own.put s' (((st.own s').w6 (σ key 0).2 none).new ⟨1,FC σ key 0 rows++[[.row (σ k2 0).1 (σ k2 0).2 z 0 es.length]]⟩)⟩:=by
 have hs:=h.sat.site _ _ _ e;subst hs;have r0:=IJ e;have r2:=IJ e2;generalize hF:(λ t=>match t with|0=>((σ key 0).1,st.own.j5 (σ key 0).1)|i+1=>if i=rows.length then σ k2 0 else σ key (i+1):Nat->Nat × Nat)=F;have F0:F 0=((σ key 0).1,st.own.j5 (σ key 0).1):=by rw[<-hF]
 have F1 : ∀ i,F (i+1)=if i=rows.length then σ k2 0 else σ key (i+1):=by intro i;rw[<-hF]
 have mc:FC (GO σ s F) s 0 (rows++[some (z,es)])=FC σ key 0 rows++[[.row (σ k2 0).1 (σ k2 0).2 z 0 es.length]]:=by
  apply List.ext_getElem?;intro j;rw[ML,EL];rcases Nat.lt_trichotomy j rows.length with hj|hj|hj
  ·rw[List.getElem?_append_left hj,List.getElem?_append_left (by rw[KT];exact hj),ML]
   congr 1;funext r
   cases r with
   | none=>rfl
   | some x=>simp only[Nat.zero_add];rw[F1,if_neg (by omega)]
  ·subst hj
   rw[List.getElem?_append_right (Nat.le_refl _),List.getElem?_append_right (by rw[KT];exact Nat.le_refl _),KT];simp [F1]
  ·rw[List.getElem?_eq_none (by simp;omega),List.getElem?_eq_none (by simp [KT];omega)];rfl
 have Gu : ∀ j t c',b9 M j t=some c'->NH s c'=false/\j≠s:=by
  intro j t c' g;obtain ⟨s1,c0,g1,g2,g3⟩:=NE g;obtain ⟨g4,g5⟩:=cP hm _ _ _ g1;refine ⟨?_,g4⟩;cases t with
  | zero=>rw[g2 rfl];exact g5
  | succ i=>obtain ⟨rows,z,es,_,_,rfl⟩:=g3 i rfl;rfl
 have hg : ∀ j t c,b9 ((s,(σ key 0).1,.mx (rows++[some (z,es)]))::w5 key (w5 k2 (w5 ky M))) j t=some c ->
   (j=s/\t=0/\c = .mx (rows++[some (z,es)]))\/(j=s/\t=rows.length+1/\c = .rw z es)\/(j=s/\t≠0/\t≠rows.length+1/\b9 M key t=some c)\/(j≠s/\j≠key/\j≠k2/\b9 M j t=some c):=by
  intro j t c g;by_cases hj:j=s
  ·subst hj
   cases t with
   | zero=>rw[fY]at g;exact Or.inl ⟨rfl,rfl,(Option.some.inj g).symm⟩
   | succ t =>
    simp only[b9,c4,Nat.beq_refl,cond_true]at g;rcases Nat.lt_trichotomy t rows.length with pd|pd|pd
    ·rw[List.getElem?_append_left pd]at g
     refine Or.inr (Or.inr (Or.inl ⟨rfl,by omega,by omega,?_⟩));simp only[b9,e];exact g
    ·subst pd
     rw[List.getElem?_append_right (Nat.le_refl _),Nat.sub_self]at g;exact Or.inr (Or.inl ⟨rfl,rfl,(Option.some.inj g).symm⟩)
    ·rw[List.getElem?_eq_none (by simp;omega)]at g;cases g
  ·rw[XP hj]at g
   obtain ⟨g1,g2⟩:=RU g;obtain ⟨g3,g4⟩:=RU g2;obtain ⟨_,g5⟩:=RU g4;exact Or.inr (Or.inr (Or.inr ⟨hj,g1,g3,g5⟩))
 refine ⟨λ j => ?_,⟨?_,?_,?_,?_,?_⟩⟩
 ·rw[rK (gP ht j)];exact h.tm j
 ·intro j s1 c g
  simp only[c4]at g;cases hb:Nat.beq j s<;>simp only[hb,cond_true,cond_false]at g
  ·rw[FY _ (J6.1 hb)];exact h.sat.site _ _ _ (XJ (XJ (XJ g).2).2).2
  ·simp only[Option.some.injEq,Prod.mk.injEq]at g
   rw[EF.1 hb,EL,F0,<-g.1]
 ·intro j t c g
  rcases hg j t c g with ⟨rfl,rfl,rfl⟩|⟨rfl,rfl,rfl⟩|⟨rfl,h0,h1,g2⟩|⟨h0,h1,h2,g2⟩
  ·rw[EL,F0]
   simp only[C3.c9,mc];simp [BD.l6,E4.new,BD.j5,E4.w6]
  ·rw[EL,F1,if_pos rfl]
   exact (bZ (λ he=>hk (h.sat.inj _ _ _ _ _ _ r2 r0 he).1.symm) (h.sat.old _ _ _ r2)).trans (h.sat.c9 _ _ _ r2)
  ·obtain ⟨t',rfl⟩ : ∃ t',t=t'+1:=⟨t-1,by omega⟩
   rw[EL,F1,if_neg (by omega)];have hb:c.c9 (GO σ j F) j=c.c9 σ key:=by
    obtain ⟨_,_,_,_,g3⟩:=NE g2;obtain ⟨_,_,_,_,_,rfl⟩:=g3 t' rfl;rfl
   rw[hb];exact (bZ (λ he=>absurd (h.sat.inj _ _ _ _ _ _ g2 r0 he).2 (by omega)) (h.sat.old _ _ _ g2)).trans (h.sat.c9 _ _ _ g2)
  ·rw[FY _ h0,nJ (Gu _ _ _ g2).1 h0]
   exact (bZ (λ he=>h1 (h.sat.inj _ _ _ _ _ _ g2 r0 he).1) (h.sat.old _ _ _ g2)).trans (h.sat.c9 _ _ _ g2)
 ·intro j t c g
  rcases hg j t c g with ⟨rfl,rfl,rfl⟩|⟨rfl,rfl,rfl⟩|⟨rfl,h0,h1,g2⟩|⟨h0,h1,h2,g2⟩
  ·rw[EL,F0]
   simp [BD.l6,E4.new,BD.j5,E4.w6]
  ·rw[EL,F1,if_pos rfl]
   exact Nat.lt_of_lt_of_le (h.sat.old _ _ _ r2) (cA _)
  ·obtain ⟨t',rfl⟩ : ∃ t',t=t'+1:=⟨t-1,by omega⟩
   rw[EL,F1,if_neg (by omega)];exact Nat.lt_of_lt_of_le (h.sat.old _ _ _ g2) (cA _)
  ·rw[FY _ h0]
   exact Nat.lt_of_lt_of_le (h.sat.old _ _ _ g2) (cA _)
 ·have hold : ∀ j t c,b9 ((s,(σ key 0).1,.mx (rows++[some (z,es)]))::w5 key (w5 k2 (w5 ky M))) j t=some c->(j=s/\t=0) \/ ∃ j0 t0 c0,b9 M j0 t0=some c0/\GO σ s F j t=σ j0 t0/\((j0=k2/\t0=0/\j=s/\t=rows.length+1)\/(j0=key/\t0=t/\j=s)\/(j0=j/\t0=t/\j≠key/\j≠k2)):=by
   intro j t c g;rcases hg j t c g with ⟨rfl,rfl,rfl⟩|⟨rfl,rfl,rfl⟩|⟨rfl,h0,h1,g2⟩|⟨h0,h1,h2,g2⟩
   ·exact Or.inl ⟨rfl,rfl⟩
   ·exact Or.inr ⟨_,_,_,r2,by rw[EL,F1,if_pos rfl],Or.inl ⟨rfl,rfl,rfl,rfl⟩⟩
   ·obtain ⟨t',rfl⟩ : ∃ t',t=t'+1:=⟨t-1,by omega⟩
    exact Or.inr ⟨_,_,_,g2,by rw[EL,F1,if_neg (by omega)],Or.inr (Or.inl ⟨rfl,rfl,rfl⟩)⟩
   ·exact Or.inr ⟨_,_,_,g2,by rw[FY _ h0],Or.inr (Or.inr ⟨rfl,rfl,h1,h2⟩)⟩
  have rh : ∀ j0 t0 c0,b9 M j0 t0=some c0->GO σ s F s 0≠σ j0 t0:=by
   intro j0 t0 c0 g he;rw[EL,F0]at he;have:=h.sat.old _ _ _ g
   rw[<-he]at this;exact absurd this (Nat.lt_irrefl _)
  intro j t j' t' c c' g g' hj;rcases hold j t c g with ⟨rfl,rfl⟩|⟨j0,t0,c0,a1,a2,a3⟩<;>rcases hold j' t' c' g' with ⟨rfl,rfl⟩|⟨j1,t1,c1,b1,b2,b3⟩
  ·exact ⟨rfl,rfl⟩
  ·rw[b2]at hj;exact absurd hj (rh _ _ _ b1)
  ·rw[a2]at hj;exact absurd hj.symm (rh _ _ _ a1)
  ·rw[a2,b2]at hj
   obtain ⟨q1,q2⟩:=h.sat.inj _ _ _ _ _ _ a1 b1 hj;rcases a3 with ⟨x1,x2,x3,x4⟩|⟨x1,x2,x3⟩|⟨x1,x2,x3,x4⟩<;>rcases b3 with ⟨y1,y2,y3,y4⟩|⟨y1,y2,y3⟩|⟨y1,y2,y3,y4⟩
   ·exact ⟨x3.trans y3.symm,x4.trans y4.symm⟩
   ·exact absurd (y1.symm.trans (q1.symm.trans x1)) hk
   ·exact absurd (y1.symm.trans (q1.symm.trans x1)) y4
   ·exact absurd (x1.symm.trans (q1.trans y1)) hk
   ·exact ⟨x3.trans y3.symm,x2.symm.trans (q2.trans y2)⟩
   ·exact absurd (y1.symm.trans (q1.symm.trans x1)) y3
   ·exact absurd (x1.symm.trans (q1.trans y1)) x4
   ·exact absurd (x1.symm.trans (q1.trans y1)) x3
   ·exact ⟨x1.symm.trans (q1.trans y1),x2.symm.trans (q2.trans y2)⟩
 ·intro j t c g hw
  rcases hg j t c g with ⟨rfl,rfl,rfl⟩|⟨rfl,rfl,rfl⟩|⟨rfl,h0,h1,g2⟩|⟨h0,h1,h2,g2⟩
  ·rw[EL,F0];exact h.sat.low _ _ _ r0 rfl
  ·rw[EL,F1,if_pos rfl];exact h.sat.low _ _ _ r2 rfl
  ·obtain ⟨t',rfl⟩ : ∃ t',t=t'+1:=⟨t-1,by omega⟩
   rw[EL,F1,if_neg (by omega)];exact h.sat.low _ _ _ g2 hw
  ·rw[FY _ h0];exact h.sat.low _ _ _ g2 hw
theorem M4 (k:IntKind) (n:Int):C8 σ (.int k n) = .int k n:=rfl
theorem MM (b:Bool):C8 σ (.bool b) = .bool b:=rfl
theorem NJ (l:Bool) (es:List (List AV)):C8 σ (.sl l es) = .sl l es:=rfl
theorem HK (k t z o n:Nat):C8 σ (.row k t z o n) = .row (σ k t).1 (σ k t).2 z o n:=rfl
theorem IW (k t i j:Nat):C8 σ (.ptr k t i j) = .ptr (σ k t).1 (σ k t).2 i j:=rfl
theorem OX (cs:List AV):C8 σ (.y9 cs) = .y9 cs:=rfl
theorem KX:C8 σ .nil = .nil:=rfl
theorem OB (cs:List AV):C8 σ (.agg cs) = .agg (cs.map (C2 σ)):=rfl
theorem Aqo (v:Value):C8 σ (.dc v) = .dc v:=rfl
theorem qU (p:Bool) (f g:Nat) (cs:List AV):C8 σ (.fn p f g cs) = .fn p f g (cs.map (C2 σ)):=rfl
theorem OC (cs:List AV):C8 σ (.g8 cs) = .g8 (cs.map (DK σ)):=rfl
def FB.res (own:BD):FB->AV × BD
 | .val v=>(v,own)
 | .new s b f=>(f (own.j5 s),own.put s ((own s).new b))
 | .Df s b f=>(f (own.j5 s),own.put s ((own s).new b))
 | .fp v o=>(v,o)
 | .w6 s x=>(.g8 [],own.put s x)
 | .Bg s x v=>(v,own.put s x)
theorem sW (st:St) (d:Option Nat) (E:FB):st.app d E=⟨(st.dst d (E.res st.own).1).tm,(E.res st.own).2⟩:=by
 cases E<;>cases d<;>rfl
def EI (L:Lib) (tm:Tm) (b7:List Nat) (K:AV->Mem->Prop) (op:H0) (st:St):Prop :=
 ∃ E σ' v M',(∀ c,e9 (GR L c) b7 st.ev st.own op=some E)/\K v M'/\(E.res st.own).1=C8 σ' v/\RX σ' tm M' ⟨st.tm,(E.res st.own).2⟩
theorem EI.val {L:Lib} {b7:List Nat} {K:AV->Mem->Prop} {op:H0} (h:RX σ tm M st) (v:AV) (he : ∀ c,e9 (GR L c) b7 st.ev st.own op=some (.val (C8 σ v))) (hk:K v M):EI L tm b7 K op st :=
 ⟨_,σ,v,M,he,hk,rfl,h⟩
variable {L:Lib} {b7:List Nat} {K:AV->Mem->Prop}
theorem AiW {x:BL} (hr:RX σ tm M st) (h:XE L tm M b7 K (.v3 x)):EI L tm b7 K (.v3 x) st:=by
 simp only[XE]at h;obtain ⟨h1,h2⟩:=pB h;exact EI.val hr _ (λ C=>by simp only[e9,hr.ev rfl h1]) h2
theorem Ai4 {s z:Nat} (hr:RX σ tm M st) (h:XE L tm M b7 K (.bu s z)):EI L tm b7 K (.bu s z) st:=by
 simp only[XE]at h;cases ng:J9 s<;>simp only[ng,cond_true,cond_false]at h;obtain ⟨k,h1,h2,h3⟩:=OL h;refine ⟨_,_,_,_,λ C=>rfl,h3,?_,hr.mn h1 h2 (.rw z []) trivial rfl (λ_=>ng)⟩;simp only[FB.res,HK,IW,EL]
theorem AiX {c a b:BL} (hr:RX σ tm M st) (h:XE L tm M b7 K (.pick c a b)):EI L tm b7 K (.pick c a b) st:=by
 simp only[XE]at h;split at h
 ·rename_i e
  obtain ⟨h1,h2⟩:=pB h;exact EI.val hr _ (λ C=>by simp only[e9,hr.ev e (by intro e;cases e),hr.ev rfl h1,M4,MM,NJ,HK,IW,OX,KX,OB,OC]) h2
 ·rename_i e
  obtain ⟨h1,h2⟩:=pB h;exact EI.val hr _ (λ C=>by simp only[e9,hr.ev e (by intro e;cases e),hr.ev rfl h1,M4,MM,NJ,HK,IW,OX,KX,OB,OC]) h2
 ·exact h.elim
theorem An8 {op:BinOp} {k k':IntKind} {a b:Int} {v:AV} (h:GF op k a k' b=some v):C8 σ v=v:=by
 cases op<;>simp only[GF]at h<;>split at h<;>first|(obtain rfl:=Option.some.inj h;rfl)|cases h
theorem Aoy {k k':IntKind} (h:kq k k'=true):k=k':=by simpa [kq] using h
theorem Ajt {op:BinOp} {k k':IntKind} {a b:Int} {K:AV->Prop} (h:tC op k a k' b K) : ∃ v,GF op k a k' b=some v/\K v:=by
 have key : ∀ (p q:Prop) [Decidable p] (A B:Prop) (c:Bool),(¬ p->q)->A3 p q A B->(p/\A)\/(¬ p/\B):=by
  intro p q _ A B _ hq hc;by_cases hp:p
  ·exact Or.inl ⟨hp,hc.1 hp⟩
  ·exact Or.inr ⟨hp,hc.2 (hq hp)⟩
 cases op;all_goals try (exact h)
 all_goals (
  simp only[tC]at h;cases hk:kq k k'<;>simp only[hk,cond_true,cond_false]at h;obtain rfl:=Aoy hk;simp only[GF,if_true])
 ·rcases key (a=b) _ _ _ true (λ e=>e) h with ⟨h1,h2⟩|⟨h1,h2⟩
  ·exact ⟨_,rfl,by rw[show (a == b)=true by simpa using h1];exact h2⟩
  ·exact ⟨_,rfl,by rw[show (a == b)=false by simpa using h1];exact h2⟩
 ·rcases key (a≠b) _ _ _ true (λ e=>by omega) h with ⟨h1,h2⟩|⟨h1,h2⟩
  ·exact ⟨_,rfl,by rw[show (a != b)=true by simpa using h1];exact h2⟩
  ·exact ⟨_,rfl,by rw[show (a != b)=false by simpa using h1];exact h2⟩
 ·rcases key (a<b) _ _ _ true (λ e=>by omega) h with ⟨h1,h2⟩|⟨h1,h2⟩
  ·exact ⟨_,rfl,by simpa [h1] using h2⟩
  ·exact ⟨_,rfl,by simpa [h1] using h2⟩
 ·rcases key (a<=b) _ _ _ true (λ e=>by omega) h with ⟨h1,h2⟩|⟨h1,h2⟩
  ·exact ⟨_,rfl,by simpa [h1] using h2⟩
  ·exact ⟨_,rfl,by simpa [h1] using h2⟩
 ·rcases key (b<a) _ _ _ true (λ e=>by omega) h with ⟨h1,h2⟩|⟨h1,h2⟩
  ·exact ⟨_,rfl,by simpa [h1] using h2⟩
  ·exact ⟨_,rfl,by simpa [h1] using h2⟩
 ·rcases key (b<=a) _ _ _ true (λ e=>by omega) h with ⟨h1,h2⟩|⟨h1,h2⟩
  ·exact ⟨_,rfl,by simpa [h1] using h2⟩
  ·exact ⟨_,rfl,by simpa [h1] using h2⟩
theorem AiF {op:BinOp} {x y:BL} (hr:RX σ tm M st) (h:XE L tm M b7 K (.bin op x y)):EI L tm b7 K (.bin op x y) st:=by
 simp only[XE]at h;split at h
 ·rename_i k a k' b e1 e2
  obtain ⟨v,hv,hk⟩:=Ajt h;exact EI.val hr v (λ C=>by
   simp only[e9,hr.ev e1 (by intro e;cases e),hr.ev e2 (by intro e;cases e),M4,MM,NJ,HK,IW,OX,KX,OB,OC,hv,Option.map_some];exact congrArg some (congrArg FB.val (An8 (σ:=σ) hv).symm)) hk
 ·exact h.elim
theorem AiE {ne:Bool} {x y:BL} (hr:RX σ tm M st) (h:XE L tm M b7 K (.beq ne x y)):EI L tm b7 K (.beq ne x y) st:=by
 simp only[XE]at h;split at h
 ·rename_i a b e1 e2
  rw[Z3]at h;exact EI.val hr _ (λ C=>by
   simp only[e9,hr.ev e1 (by intro e;cases e),hr.ev e2 (by intro e;cases e),M4,MM,NJ,HK,IW,OX,KX,OB,OC];cases ne<;>rfl) h
 ·exact h.elim
theorem Ai3 {op:UnOp} {x:BL} (hr:RX σ tm M st) (h:XE L tm M b7 K (.un op x)):EI L tm b7 K (.un op x) st:=by
 simp only[XE]at h;split at h
 ·rename_i k n e1
  obtain ⟨v,hv,hk⟩:=h;refine EI.val hr v (λ C => ?_) hk;simp only[e9,hr.ev e1 (by intro e;cases e),M4,MM,NJ,HK,IW,OX,KX,OB,OC,hv,Option.map_some];cases op<;>simp only[aL,Option.some.injEq,reduceCtorEq]at hv<;>subst hv<;>rfl
 ·rename_i b e1
  split at h
  ·rw[Z3]at h
   exact EI.val hr _ (λ C=>by simp only[e9,hr.ev e1 (by intro e;cases e),M4,MM,NJ,HK,IW,OX,KX,OB,OC,aL,Option.map_some]) h
  ·exact h.elim
 ·exact h.elim
theorem AiJ {k:IntKind} {x:BL} (hr:RX σ tm M st) (h:XE L tm M b7 K (.conv k x)):EI L tm b7 K (.conv k x) st:=by
 simp only[XE]at h;split at h
 ·rename_i k' n e1
  exact EI.val hr _ (λ C=>by simp only[e9,hr.ev e1 (by intro e;cases e),M4,MM,NJ,HK,IW,OX,KX,OB,OC]) h.h
 ·exact h.elim
theorem AiG {s:Nat} {x:BL} (hr:RX σ tm M st) (h:XE L tm M b7 K (.box s x)):EI L tm b7 K (.box s x) st:=by
 simp only[XE]at h;obtain ⟨h0,cs,hc,h⟩:=oZ h;obtain ⟨k,h1,h2,h3⟩:=OL h;refine ⟨.new s (C3.c9 σ k (.bx cs)) (λ t => .ptr s t 0 0),_,_,_,λ C => ?_,h3,?_,hr.mn h1 h2 (.bx cs) trivial (Afu (Adm h2 x) hc) (λ h=>nomatch h)⟩
 ·simp only[e9,hr.ev rfl h0,ZO hc,List.length_map,C3.c9]
 ·simp only[FB.res,HK,IW,EL]
theorem AiB {s:Nat} {z:List AV} (hr:RX σ tm M st) (h:XE L tm M b7 K (.alloc s z)):EI L tm b7 K (.alloc s z) st:=by
 simp only[XE]at h;cases hd:H9 z<;>simp only[hd,cond_true,cond_false]at h;obtain ⟨k,h1,h2,h3⟩:=OL h;refine ⟨.new s (C3.c9 σ k (.bx z)) (λ t => .ptr s t 0 0),_,_,_,λ C => ?_,h3,?_,hr.mn h1 h2 (.bx z) trivial (tV hd) (λ h=>nomatch h)⟩
 ·simp only[e9,C3.c9,OQ hd]
 ·simp only[FB.res,HK,IW,EL]
theorem qE {cs ds:List AV} {off n:Nat} (h:part cs off n=some ds):part (cs.map (C2 σ)) off n=some (ds.map (C2 σ)):=by
 simp only[part]at h ⊢;split at h
 ·rename_i hl
  rw[if_pos (by simpa using hl)];obtain rfl:=Option.some.inj h;rw[List.map_take,List.map_drop]
 ·cases h
theorem Ado {v:AV} {K:AV->Prop} (h:fF v K):v ≠ .any/\C8 σ v=C2 σ v/\K v:=by
 cases v<;>simp only[fF]at h<;>first|exact h.elim|exact ⟨(by intro e;cases e),rfl,h⟩
theorem aA (σ:JX) {agg:Bool} {ds:List AV} {K:AV->Prop} (h:vk agg ds K) : ∃ v,P4 agg (ds.map (C2 σ))=some (C8 σ v)/\K v:=by
 cases agg
 ·simp only[vk]at h
  split at h
  ·rename_i c
   obtain ⟨_,h1,h2⟩:=Ado (σ:=σ) h;exact ⟨c,by rw[h1];rfl,h2⟩
  ·exact h.elim
 ·exact ⟨.agg ds,rfl,h⟩
theorem Af8 {cs vs:List AV} {j:Nat}:(splice cs j vs).map (C2 σ)=splice (cs.map (C2 σ)) j (vs.map (C2 σ)):=by
 simp only[splice,List.map_append,List.map_take,List.map_drop,List.length_map]
theorem Adt (hr:RX σ tm M st) : ∀ {ps:List (Nat × Nat × BL)} {cells:List AV} {K:List AV->Prop},vN tm ps cells K -> ∃ cs,fill (cells.map (C2 σ)) (ps.map λ p=>(p.1,p.2.1,st.ev p.2.2))=some (cs.map (C2 σ))/\K cs
 | [],cells,K,h=>⟨cells,rfl,h⟩
 | p::r,cells,K,h=>by
  obtain ⟨h0,vs,hc,h⟩:=oZ (show fC (ex tm p.2.2) λ vs=>bif Nat.beq vs.length p.2.1 then bif Nat.ble (p.1+p.2.1) cells.length then fL (splice cells p.1 vs) λ cells=>vN tm r cells K else False else False from h);cases hz:Nat.beq vs.length p.2.1<;>simp only[hz,cond_true,cond_false]at h;have hl:Nat.ble (p.1+p.2.1) cells.length=true:=by
   cases hl:Nat.ble (p.1+p.2.1) cells.length
   ·rw[hl]at h;exact h.elim
   ·rfl
  rw[hl]at h;simp only[cond_true,MT]at h;obtain ⟨cs,h1,h2⟩:=Adt hr h;refine ⟨cs,?_,h2⟩;simp only[List.map_cons,fill,hr.ev rfl h0,ZO hc,List.length_map];rw[if_pos ⟨EF.1 hz,Nat.le_of_ble_eq_true hl⟩,<-Af8];exact h1
theorem AiI {z:List AV} {ps:List (Nat × Nat × BL)} (hr:RX σ tm M st) (h:XE L tm M b7 K (.build z ps)):EI L tm b7 K (.build z ps) st:=by
 simp only[XE]at h;cases hd:H9 z<;>simp only[hd,cond_true,cond_false]at h;obtain ⟨cs,h1,h2⟩:=Adt hr h;refine EI.val hr (.agg cs) (λ C => ?_) h2;rw[OQ hd]at h1;simp only[e9,h1];rfl
theorem Adl : ∀ l:List BL,Z2 tm l=l.map (ex tm)
 | []=>rfl
 | x::r=>by rw[Z2,Adl r];rfl
theorem AbL : ∀ {es:List (List AV)},jL es=true -> ∀ e∈es,H9 e=true
 | e0::r,h,e,he=>by
  simp only[jL]at h;cases h1:H9 e0<;>simp only[h1,cond_true,cond_false]at h
  ·cases h
  ·rcases List.mem_cons.1 he with rfl|he
   ·exact h1
   ·exact AbL h e he
theorem Akj {es:List (List AV)} (h : ∀ e∈es,H9 e=true):(es.map λ cs=>cs.map (C2 σ))=es:=by
 conv=>rhs;rw[<-List.map_id es]
 exact List.map_congr_left λ e he=>OQ (h e he)
theorem AoK {es:List (List AV)} {K:Nat->Prop} (h:xC es K):K es.length:=by
 unfold xC at h;split at h<;>exact h
theorem Abc (hr:RX σ tm M st) {z:Nat} : ∀ {l:List BL} {K:List (List AV)->Prop},tF tm z l K -> ∃ es,l.mapM (λ x=>cellsOf (st.ev x))=some (es.map λ cs=>cs.map (C2 σ))/\(∀ e∈es,e.length=z)/\(∀ k,NI k tm=false->aD k es=false)/\K es
 | [],K,h=>⟨[],rfl,(λ e he=>by cases he),λ_ _=>rfl,h⟩
 | x::r,K,h=>by
  obtain ⟨h0,cs,hc,h⟩:=oZ (show fC (ex tm x) λ cs=>bif Nat.beq cs.length z then tF tm z r λ es=>K (cs::es) else False from h);cases hz:Nat.beq cs.length z<;>simp only[hz,cond_true,cond_false]at h;obtain ⟨es,h1,h2,h4,h3⟩:=Abc hr h;refine ⟨cs::es,?_,λ e he => ?_,λ k hk => ?_,h3⟩
  ·rw[List.mapM_cons,h1,hr.ev rfl h0,ZO hc];rfl
  ·rcases List.mem_cons.1 he with rfl|he
   ·exact EF.1 hz
   ·exact h2 e he
  ·simp only[aD,Afu (Adm hk x) hc,cond_false,h4 k hk]
theorem evL (hr:RX σ tm M st) {xs:List BL} (h : ∀ v∈Z2 tm xs,v ≠ .any):xs.map st.ev=(Z2 tm xs).map (C8 σ):=by
 rw[Adl]at h ⊢;rw[List.map_map];exact List.map_congr_left λ x hx=>hr.ev rfl (h _ (List.mem_map_of_mem hx))
theorem AiH {s z:Nat} {ps:List BL} (hr:RX σ tm M st) (h:XE L tm M b7 K (.a8 s z ps)):EI L tm b7 K (.a8 s z ps) st:=by
 simp only[XE]at h;cases ng:J9 s<;>simp only[ng,cond_true,cond_false]at h;obtain ⟨es,g1,g2,g3,h⟩:=Abc hr h;obtain ⟨k,h1,h2,h3⟩:=OL (AoK h);have key : ∀ c:C3,c.flat->NH k c=false->c.c9 σ k=⟨z,es.map λ cs=>cs.map (C2 σ)⟩->K (.row k 0 z 0 es.length) ((k,s,c)::M)->EI L tm b7 K (.a8 s z ps) st:=by
  intro c hf hc hb hk;refine ⟨.new s (c.c9 σ k) (λ t => .row s t z 0 es.length),_,_,_,λ C => ?_,hk,?_,hr.mn h1 h2 c hf hc (λ_=>ng)⟩
  ·simp only[e9,g1,hb]
   rw[if_pos (λ e he=>by obtain ⟨e',jy,rfl⟩:=List.mem_map.1 he;simpa using g2 e' jy)];simp only[List.length_map]
  ·simp only[FB.res,HK,EL]
 cases hd:jL es<;>simp only[hd,cond_true,cond_false]at h3
 ·exact key (.bs z es) trivial (g3 k h2) rfl h3
 ·exact key (.rw z es) trivial rfl (by simp only[C3.c9];rw[Akj (AbL hd)]) h3
theorem AiM {x:BL} {off:Nat} (hr:RX σ tm M st) (h:XE L tm M b7 K (.k7 x off)):EI L tm b7 K (.k7 x off) st:=by
 simp only[XE]at h;split at h
 ·rename_i key t i j e
  exact EI.val hr _ (λ C=>by simp only[e9,hr.ev e (by intro e;cases e),M4,MM,NJ,HK,IW,OX,KX,OB,OC]) h
 ·rename_i cs e
  rw[MT]at h;exact EI.val hr _ (λ C=>by simp only[e9,hr.ev e (by intro e;cases e),M4,MM,NJ,HK,IW,OX,KX,OB,OC]) h
 ·exact h.elim
theorem AiN {x:BL} {off n:Nat} {agg:Bool} (hr:RX σ tm M st) (h:XE L tm M b7 K (.rn x off n agg)):EI L tm b7 K (.rn x off n agg) st:=by
 simp only[XE]at h;split at h
 ·rename_i cs e
  split at h
  ·rename_i ds hp
   rw[MT]at h;obtain ⟨v,h1,h2⟩:=aA σ h;exact EI.val hr v (λ C=>by simp only[e9,hr.ev e (by intro e;cases e),OB,qE hp,h1,Option.map_some]) h2
  ·exact h.elim
 ·exact h.elim
theorem AiP {arr:Option Nat} {z:Nat} {x i:BL} (hr:RX σ tm M st) (h:XE L tm M b7 K (.v7 arr z x i)):EI L tm b7 K (.v7 arr z x i) st:=by
 simp only[XE]at h;split at h
 ·rename_i kd n e1
  split at h
  ·rename_i len key t i' j e2
   obtain ⟨h1,h2⟩:=h;exact EI.val hr _ (λ C=>by simp only[e9,hr.ev e1 (by intro e;cases e),hr.ev e2 (by intro e;cases e),M4,MM,NJ,HK,IW,OX,KX,OB,OC];rw[if_pos h1]) h2
  ·rename_i len cs e2
   obtain ⟨h1,h2⟩:=h;rw[MT]at h2;exact EI.val hr _ (λ C=>by simp only[e9,hr.ev e1 (by intro e;cases e),hr.ev e2 (by intro e;cases e),M4,MM,NJ,HK,IW,OX,KX,OB,OC];rw[if_pos h1]) h2
  ·rename_i key t z' off len e2
   cases hz:Nat.beq z' z<;>simp only[hz,cond_true,cond_false]at h;obtain ⟨h1,h2⟩:=h;exact EI.val hr _ (λ C=>by simp only[e9,hr.ev e1 (by intro e;cases e),hr.ev e2 (by intro e;cases e),M4,MM,NJ,HK,IW,OX,KX,OB,OC];rw[if_pos ⟨h1.1,h1.2,EF.1 hz⟩]) h2
  ·rename_i q es e2
   obtain ⟨h1,cs,h2,h3,h4⟩:=h;exact EI.val hr _ (λ C=>by simp only[e9,hr.ev e1 (by intro e;cases e),hr.ev e2 (by intro e;cases e),M4,MM,NJ,HK,IW,OX,KX,OB,OC,h2];rw[if_pos h1,if_pos h3]) h4
  ·exact h.elim
 ·exact h.elim
theorem gG {s:Nat} {own:BD} : ∀ {b7:List Nat},aB s b7=true->own.o5 b7 s=own s
 | [],_=>rfl
 | b::r,h=>by
  have hm:O9 s (b::r)=false:=by simpa [aB] using h
  have : ∀ l:List Nat,O9 s l=false->own.o5 l s=own s:=by
   intro l;induction l with
   | nil=>intro _;rfl
   | cons b r ih =>
    intro h;simp only[O9]at h;cases hb:Nat.beq s b<;>simp only[hb,cond_true,cond_false]at h
    ·simp only[BD.o5]
     rw[if_neg (J6.1 hb)];exact ih h
    ·cases h
  exact this _ hm
theorem xX {s:Nat} {own:BD} (hs:J9 s=true) : ∀ {b7:List Nat},cJ b7=true->own.o5 b7 s=own s
 | [],_=>rfl
 | b::r,h=>by
  simp only[cJ]at h;cases hb:J9 b<;>simp only[hb,cond_true,cond_false]at h
  ·have m7:s≠b:=λ e=>by rw[e,hb]at hs;cases hs
   show (if s=b then _ else own.o5 r s)=own s;rw[if_neg m7];exact xX hs h
  ·cases h
theorem AiR {agg:Bool} {n:Nat} {x:BL} (hr:RX σ tm M st) (h:XE L tm M b7 K (.ld agg n x)):EI L tm b7 K (.ld agg n x) st:=by
 simp only[XE]at h;split at h
 ·rename_i key t i j e
  split at h
  ·rename_i s c hm
   have hs:=hr.sat.site _ _ _ hm;split at h
   ·cases hb:aB s b7<;>simp only[hb,cond_true,cond_false]at h
    have bh:=hr.sat.c9 _ _ _ (IJ hm);rw[hs]at bh;split at h
    ·rename_i cs
     cases hi:Nat.beq i 0<;>simp only[hi,cond_true,cond_false]at h;obtain rfl:=EF.1 hi;split at h
     ·rename_i ds hp
      rw[MT]at h;obtain ⟨v,h1,h2⟩:=aA σ h;exact EI.val hr v (λ C=>by
       simp only[e9,hr.ev e (by intro e;cases e),IW,BD.uf,BD.get,hs];rw[gG hb,bh];simp only[C3.c9,List.getElem?_cons_zero,qE hp,h1,Option.map_some]) h2
     ·exact h.elim
    ·rename_i z es
     obtain ⟨cs,ds,g1,g2,h⟩:=h;rw[MT]at h;cases hd:H9 ds<;>simp only[hd,cond_true,cond_false]at h;obtain ⟨v,h1,h2⟩:=aA σ h;rw[OQ hd]at h1;exact EI.val hr v (λ C=>by
      simp only[e9,hr.ev e (by intro e;cases e),IW,BD.uf,BD.get,hs];rw[gG hb,bh];simp only[C3.c9,g1,g2,h1,Option.map_some]) h2
    ·rename_i z es
     split at h
     ·rename_i cs g1
      split at h
      ·rename_i ds hp
       rw[MT]at h;obtain ⟨v,h1,h2⟩:=aA σ h;exact EI.val hr v (λ C=>by
        simp only[e9,hr.ev e (by intro e;cases e),IW,BD.uf,BD.get,hs];rw[gG hb,bh];simp only[C3.c9,List.getElem?_map,g1,Option.map_some,qE hp,h1]) h2
      ·exact h.elim
     ·exact h.elim
    ·rename_i rows
     cases hj:Nat.beq j 0<;>simp only[hj,cond_true,cond_false]at h;cases hn:Nat.beq n 1<;>simp only[hn,cond_true,cond_false]at h;obtain rfl:=EF.1 hj;obtain rfl:=EF.1 hn;obtain ⟨r,g1,h⟩:=h;have fin : ∀ c:AV,(FC σ key 0 rows)[i]? = some [C2 σ c]->vk agg [c] (λ v=>K v M)->EI L tm b7 K (.ld agg 1 x) st:=by
      intro c hc h;obtain ⟨v,h1,h2⟩:=aA σ h;have hp:part [C2 σ c] 0 1=some [C2 σ c]:=by simp [part]
      exact EI.val hr v (λ C=>by
       simp only[e9,hr.ev e (by intro e;cases e),IW,BD.uf,BD.get,hs];rw[gG hb,bh];simp only[C3.c9,hc,hp];simp only[List.map_cons,List.map_nil]at h1;simp only[h1,Option.map_some]) h2
     split at h
     ·rename_i z es
      exact fin _ (by rw[ML,g1];simp [C2]) h
     ·exact fin _ (by rw[ML,g1];simp [C2]) h
    ·exact h.elim
    ·exact h.elim
   ·rename_i i'
    split at h
    ·rename_i rows
     obtain ⟨z,es,g0,cs,ds,g1,g2,h⟩:=h;rw[MT]at h;cases hd:H9 ds<;>simp only[hd,cond_true,cond_false]at h;obtain ⟨v,h1,h2⟩:=aA σ h;rw[OQ hd]at h1;have bh:=hr.sat.c9 key (i'+1) (.rw z es) (by simp [b9,hm,g0]);exact EI.val hr v (λ C=>by
      simp only[e9,hr.ev e (by intro e;cases e),IW,BD.uf,BD.get,BD.o5];rw[bh];simp only[C3.c9,g1,g2,h1,Option.map_some]) h2
    ·rename_i rows b r
     cases hb:cJ (b::r)<;>simp only[hb,cond_true,cond_false]at h;obtain ⟨z,es,g0,cs,ds,g1,g2,h⟩:=h;rw[MT]at h;cases hd:H9 ds<;>simp only[hd,cond_true,cond_false]at h;obtain ⟨v,h1,h2⟩:=aA σ h;rw[OQ hd]at h1;have g':b9 M key (i'+1)=some (.rw z es):=by simp [b9,hm,g0]
     have bh:=hr.sat.c9 key (i'+1) (.rw z es) g';have ng:=hr.sat.low key (i'+1) _ g' rfl;exact EI.val hr v (λ C=>by
      simp only[e9,hr.ev e (by intro e;cases e),IW,BD.uf,BD.get];rw[xX ng hb,bh];simp only[C3.c9,g1,g2,h1,Option.map_some]) h2
    ·exact h.elim
  ·exact h.elim
 ·rename_i cs e
  split at h
  ·rename_i ds hp
   rw[MT]at h;cases hd:H9 ds<;>simp only[hd,cond_true,cond_false]at h;obtain ⟨v,h1,h2⟩:=aA σ h;rw[OQ hd]at h1;exact EI.val hr v (λ C=>by simp only[e9,hr.ev e (by intro e;cases e),OX,hp,h1,Option.map_some]) h2
  ·exact h.elim
 ·exact h.elim
theorem Za {n:Nat} {x v:BL} (hr:RX σ tm M st) (h:XE L tm M b7 K (.st n x v)):EI L tm b7 K (.st n x v) st:=by
 simp only[XE,Xp]at h;split at h
 ·rename_i key t i j e
  obtain ⟨h0,vs,hc,h5⟩:=oZ h;clear h;cases hn:Nat.beq vs.length n<;>simp only[hn,cond_true,cond_false]at h5;have wz:=EF.1 hn;split at h5
  ·rename_i s c hm
   have hs:=hr.sat.site _ _ _ hm;split at h5
   ·have bh:=hr.sat.c9 _ _ _ (IJ hm)
    rw[hs]at bh;split at h5
    ·rename_i cs
     cases hi:Nat.beq i 0<;>simp only[hi,cond_true,cond_false]at h5;obtain rfl:=EF.1 hi;have hl:Nat.ble (j+vs.length) cs.length=true:=by
      cases hl:Nat.ble (j+vs.length) cs.length
      ·rw[hl]at h5;exact h5.elim
      ·rfl
     rw[hl]at h5;simp only[cond_true,MT]at h5;refine ⟨.fp (.g8 []) (st.own.put s ((st.own s).w6 (σ key 0).2 (some (C3.c9 σ key (.bx (splice cs j vs)))))),σ,_,_,λ C => ?_,h5,rfl,hr.Pz hm trivial _ trivial (λ h=>nomatch h)⟩;simp only[e9,hr.ev e (by intro e;cases e),IW,hr.ev rfl h0,ZO hc,List.length_map];rw[if_pos wz];simp only[BD.rk,BD.get,hs,bh,C3.c9,List.getElem?_cons_zero,List.length_map];rw[if_pos (Nat.le_of_ble_eq_true hl)];simp only[Option.map_some,List.set_cons_zero,Af8];have:(splice cs j vs).length=cs.length:=by
      have:=Nat.le_of_ble_eq_true hl
      simp only[splice,List.length_append,List.length_take,List.length_drop];omega
     rw[this]
    ·rename_i z es
     cases hd:H9 vs<;>simp only[hd,cond_true,cond_false]at h5;obtain ⟨cs,g1,g2,h5⟩:=h5;refine ⟨.fp (.g8 []) (st.own.put s ((st.own s).w6 (σ key 0).2 (some (C3.c9 σ key (.rw z (es.set i (splice cs j vs))))))),σ,_,_,λ C => ?_,h5,rfl,hr.Pz hm trivial _ trivial (λ_=>rfl)⟩;simp only[e9,hr.ev e (by intro e;cases e),IW,hr.ev rfl h0,ZO hc,OQ hd];rw[if_pos wz];simp only[BD.rk,BD.get,hs,bh,C3.c9,g1];rw[if_pos g2];rfl
    ·exact h5.elim
    ·rename_i rows
     split at h5
     ·rename_i df z m
      cases sf:Nat.beq key df<;>simp only[sf,cond_true,cond_false]at h5;cases eo:W6 key tm<;>simp only[eo,cond_true,cond_false]at h5;cases qg:PV key M<;>simp only[qg,cond_true,cond_false]at h5;cases hj:Nat.beq j 0<;>simp only[hj,cond_true,cond_false]at h5;obtain rfl:=EF.1 hj;split at h5
      ·rename_i s2 z' es er
       cases hz:Nat.beq z z'<;>simp only[hz,cond_true,cond_false]at h5;obtain rfl:=EF.1 hz;rw[YP]at h5;obtain ⟨rfl,hi,h5⟩:=h5;have hlen:(FC σ key 0 rows)[i]? = some ((FC σ key 0 rows)[i]'(by rw[KT];exact hi)):=zE _;have od:((FC σ key 0 rows)[i]'(by rw[KT];exact hi)).length=1:=by
        have:=ML (σ:=σ) (k:=key) rows 0 i
        rw[hlen,zE hi]at this;simp only[Option.map_some,Option.some.injEq]at this;rw[this];split<;>rfl
       refine ⟨.fp (.g8 []) (st.own.put s ((st.own s).w6 (σ key 0).2 (some ⟨1,(FC σ key 0 rows).set i [.row (σ df 0).1 (σ df 0).2 z 0 es.length]⟩))),_,_,_,λ C => ?_,h5,rfl,hr.Hi hm (Or.inl rfl) er (J6.1 sf) eo qg hi⟩;simp only[e9,hr.ev e (by intro e;cases e),IW,hr.ev rfl h0,ZO hc,List.length_map];rw[if_pos wz];simp only[BD.rk,BD.get,hs,bh,C3.c9,hlen,List.map_cons,List.map_nil,List.length_cons,List.length_nil,C2];rw[if_pos (by omega)];simp only[Option.map_some];have hsp:splice ((FC σ key 0 rows)[i]'(by rw[KT];exact hi)) 0 [.row (σ df 0).1 (σ df 0).2 z 0 es.length]=[.row (σ df 0).1 (σ df 0).2 z 0 es.length]:=by
        simp only[splice,List.take_zero,List.nil_append,List.length_cons,List.length_nil,Nat.zero_add];rw[List.drop_of_length_le (by omega)];rfl
       rw[hsp]
      ·exact h5.elim
     ·exact h5.elim
    ·rename_i i0 v0 rows
     split at h5
     ·rename_i df z m
      cases sf:Nat.beq key df<;>simp only[sf,cond_true,cond_false]at h5;cases eo:W6 key tm<;>simp only[eo,cond_true,cond_false]at h5;cases qg:PV key M<;>simp only[qg,cond_true,cond_false]at h5;cases hj:Nat.beq j 0<;>simp only[hj,cond_true,cond_false]at h5;obtain rfl:=EF.1 hj;split at h5
      ·rename_i s2 z' es er
       cases hz:Nat.beq z z'<;>simp only[hz,cond_true,cond_false]at h5;obtain rfl:=EF.1 hz;rw[YP]at h5;obtain ⟨⟨rfl,rfl⟩,hi,h5⟩:=h5;refine ⟨.fp (.g8 []) (st.own.put s ((st.own s).w6 (σ key 0).2 (some ⟨1,(FC σ key 0 rows).set i [.row (σ df 0).1 (σ df 0).2 z 0 es.length]⟩))),_,_,_,λ C => ?_,h5,rfl,hr.Hi hm (Or.inr ⟨v0,rfl⟩) er (J6.1 sf) eo qg hi⟩;simp only[e9,hr.ev e (by intro e;cases e),IW,hr.ev rfl h0,ZO hc,List.length_map];rw[if_pos wz];simp only[BD.rk,BD.get,hs,bh,C3.c9,List.getElem?_set_self (show i<(FC σ key 0 rows).length by rw[KT];exact hi),List.map_cons,List.map_nil,List.length_cons,List.length_nil,C2];rw[if_pos (by omega)];simp only[Option.map_some,List.set_set];rfl
      ·exact h5.elim
     ·exact h5.elim
    ·exact h5.elim
   ·rename_i i'
    split at h5
    ·rename_i rows
     cases hd:H9 vs<;>simp only[hd,cond_true,cond_false]at h5;obtain ⟨z,es,g0,cs,g1,g2,g3,h5⟩:=h5;have bh:=hr.sat.c9 key (i'+1) (.rw z es) (by simp [b9,hm,g0]);refine ⟨.fp (.g8 []) (st.own.put (σ key (i'+1)).1 ((st.own (σ key (i'+1)).1).w6 (σ key (i'+1)).2 (some ⟨z,es.set i (splice cs j vs)⟩))),σ,_,_,λ C => ?_,h5,rfl,hr.Xn hm g0 g3⟩;simp only[e9,hr.ev e (by intro e;cases e),IW,hr.ev rfl h0,ZO hc,OQ hd];rw[if_pos wz];simp only[BD.rk,BD.get,bh,C3.c9,g1];rw[if_pos g2];rfl
    ·exact h5.elim
  ·exact h5.elim
 ·exact h.elim
theorem AiT {s z bytes:Nat} {zero:List AV} {a c:BL} (hr:RX σ tm M st) (h:XE L tm M b7 K (.mk s z bytes zero a c)):EI L tm b7 K (.mk s z bytes zero a c) st:=by
 simp only[XE]at h;split at h
 ·rename_i k1 p k2 q e1 e2
  cases hz:Nat.beq zero.length z<;>simp only[hz,cond_true,cond_false]at h;cases hd:H9 zero<;>simp only[hd,cond_true,cond_false]at h;split at h
  ·cases ng:J9 s<;>simp only[ng,cond_true,cond_false]at h
   obtain ⟨⟨g1,g2,g3,g4⟩,h⟩:=h;obtain ⟨k,h1,h2,h3⟩:=OL h;have jf:C3.flat (.mx (List.replicate p.toNat none)):=by
    intro i x hx;have:=List.getElem?_replicate (n:=p.toNat) (a:=(none:Option (Nat × List (List AV)))) (i:=i)
    rw[this]at hx;split at hx<;>cases hx
   have ni:z=1:=(EF.1 hz).symm;have nf:C3.c9 σ k (.mx (List.replicate p.toNat none))=⟨z,List.replicate p.toNat [.nil]⟩:=by
    simp only[C3.c9,ni];congr 1;have : ∀ (n i:Nat),FC σ k i (List.replicate n none)=List.replicate n [AV.nil]:=by
     intro n;induction n with
     | zero=>intro i;rfl
     | succ n ih=>intro i;rw[List.replicate_succ,List.replicate_succ,FC,ih]
    exact this _ _
   refine ⟨.new s (C3.c9 σ k (.mx (List.replicate p.toNat none))) (λ t => .row s t z 0 p.toNat),_,_,_,λ C => ?_,h3,?_,hr.mn h1 h2 (.mx _) jf rfl (λ_=>ng)⟩
   ·simp only[e9,hr.ev e1 (by intro e;cases e),hr.ev e2 (by intro e;cases e),M4,nf]
    rw[if_pos ⟨g1,g2,g3,g4,EF.1 hz⟩]
   ·simp only[FB.res,HK,EL]
  ·cases ng:J9 s<;>simp only[ng,cond_true,cond_false]at h
   obtain ⟨⟨g1,g2,g3,g4⟩,h⟩:=h;obtain ⟨k,h1,h2,h3⟩:=OL h;refine ⟨.new s ⟨z,List.replicate p.toNat zero⟩ (λ t => .row s t z 0 p.toNat),_,_,_,λ C => ?_,h3,?_,hr.mn h1 h2 (.rw z _) trivial rfl (λ_=>ng)⟩
   ·simp only[e9,hr.ev e1 (by intro e;cases e),hr.ev e2 (by intro e;cases e),M4]
    rw[if_pos ⟨g1,g2,g3,g4,EF.1 hz⟩]
   ·simp only[FB.res,HK,EL]
 ·exact h.elim
theorem Adn {v:AV} {K:AV->Prop} (h:f2 v K):v ≠ .any/\C8 σ v=DK σ v/\K v:=by
 cases v<;>simp only[f2,MT]at h<;>first|exact h.elim|exact ⟨(by intro e;cases e),rfl,h⟩
theorem Aeg : ∀ (vs:List AV) (i:Nat),Db vs i ≠ .any->vs[i]? = some (Db vs i)
 | [],_,h=>absurd rfl h
 | _::_,0,_=>rfl
 | _::r,i+1,h=>Aeg r i h
theorem AiL {x:BL} {i:Nat} (hr:RX σ tm M st) (h:XE L tm M b7 K (.ext x i)):EI L tm b7 K (.ext x i) st:=by
 simp only[XE]at h;split at h
 ·rename_i vs e
  obtain ⟨h1,h2,h3⟩:=Adn (σ:=σ) h;refine EI.val hr _ (λ C => ?_) h3;simp only[e9,hr.ev e (by intro e;cases e),OC,List.getElem?_map,Aeg vs i h1,Option.map_some,h2]
 ·exact h.elim
theorem AiS {x:BL} (hr:RX σ tm M st) (h:XE L tm M b7 K (.len x)):EI L tm b7 K (.len x) st:=by
 simp only[XE]at h;split at h
 ·rename_i q es e
  exact EI.val hr _ (λ C=>by simp only[e9,hr.ev e (by intro e;cases e),NJ,lenOf];rfl) h.h
 ·rename_i e
  exact EI.val hr _ (λ C=>by simp only[e9,hr.ev e (by intro e;cases e),KX,lenOf];rfl) h
 ·rename_i e
  exact EI.val hr _ (λ C=>by simp only[e9,hr.ev e (by intro e;cases e),HK,lenOf];rfl) h
 ·exact h.elim
theorem AeN {mx:Bool} {k:IntKind} {K:AV->Prop} : ∀ {l:List AV} {a:Int},cF mx k K a l -> ∃ n,P2 mx (.int k a) l=some (.int k n)/\K (.int k n)/\(∀ v∈l,v ≠ .any/\C8 σ v=v)
 | [],a,h=>⟨a,rfl,h,λ v hv=>by cases hv⟩
 | v::r,a,h=>by
  cases v with
  | int k' b =>
   have h:(bif mx then A3 (a<b) (b<=a) (cF mx k K b r) (cF mx k K a r) else A3 (b<a) (a<=b) (cF mx k K b r) (cF mx k K a r)):=h;have fin : ∀ c:Int,YV mx (.int k a) (.int k' b)=some (.int k c)->cF mx k K c r -> ∃ n,P2 mx (.int k a) (.int k' b::r)=some (.int k n)/\K (.int k n)/\(∀ v∈AV.int k' b::r,v ≠ .any/\C8 σ v=v):=by
    intro c hc hx;obtain ⟨n,h1,h2,h3⟩:=AeN hx;refine ⟨n,by simp only[P2,hc,h1],h2,λ v hv => ?_⟩;rcases List.mem_cons.1 hv with rfl|hv
    ·exact ⟨(by intro e;cases e),rfl⟩
    ·exact h3 v hv
   cases mx
   ·simp only[cond_false]at h
    by_cases hc:b<a
    ·exact fin b (by simp [YV,hc]) (h.1 hc)
    ·exact fin a (by simp [YV,hc]) (h.2 (by omega))
   ·simp only[cond_true]at h
    by_cases hc:a<b
    ·exact fin b (by simp [YV,hc]) (h.1 hc)
    ·exact fin a (by simp [YV,hc]) (h.2 (by omega))
  | _=>exact (h:False).elim
theorem AiV {mx:Bool} {xs:List BL} (hr:RX σ tm M st) (h:XE L tm M b7 K (.mm mx xs)):EI L tm b7 K (.mm mx xs) st:=by
 simp only[XE]at h;split at h
 ·rename_i k a r e
  obtain ⟨n,h1,h2,h3⟩:=AeN (σ:=σ) h;refine EI.val hr (.int k n) (λ C => ?_) h2;have hx : ∀ v∈Z2 tm xs,v ≠ .any:=by
   rw[e];intro v hv;rcases List.mem_cons.1 hv with rfl|hv
   ·intro e;cases e
   ·exact (h3 v hv).1
  have hm:(Z2 tm xs).map (C8 σ) = .int k a::r:=by
   rw[e,List.map_cons];congr 1;conv=>rhs;rw[<-List.map_id r]
   exact List.map_congr_left λ v hv=>(h3 v hv).2
  simp only[e9];rw[show xs.map st.ev = .int k a::r from (evL hr hx).trans hm];simp only[h1,Option.map_some,M4]
 ·exact h.elim
theorem Aqn (hr:RX σ tm M st) {k t:Nat} {K:Nat->List (List AV)->Prop} (h:zA M k t K) : ∃ z es,(st.own (σ k t).1).c9 (σ k t).2=some ⟨z,es⟩/\K z es:=by
 unfold zA at h;split at h
 ·rename_i s c hm
  split at h
  ·split at h
   ·exact ⟨_,_,hr.sat.c9 _ _ _ (IJ hm),h⟩
   ·exact h.elim
  ·rename_i i
   split at h
   ·rename_i rows
    obtain ⟨z,es,g,h⟩:=h;exact ⟨z,es,hr.sat.c9 k (i+1) (.rw z es) (by simp [b9,hm,g]),h⟩
   ·exact h.elim
 ·exact h.elim
theorem AqX {own n6:BD} {s t i j:Nat} {vs:List AV} (h:own.rk s t i j vs=some n6):own.put s (n6 s)=n6:=by
 unfold BD.rk at h;cases hg:own.get s t with
 | none=>simp [hg]at h
 | some b =>
  simp only[hg]at h;cases he:b.es[i]? with
  | none=>simp [he]at h
  | some cs =>
   simp only[he]at h;split at h
   ·obtain rfl:=Option.some.inj h
    rw[BD.l6]
   ·cases h
theorem Ai2 {s n:Nat} {x v:BL} (hr:RX σ tm M st) (h:XE L tm M b7 K (.te s n x v)):EI L tm b7 K (.te s n x v) st:=by
 simp only[XE]at h;split at h
 ·rename_i key i j e1
  split at h
  ·rename_i s' c hm
   cases hb:Nat.beq s' s<;>simp only[hb,cond_true,cond_false]at h;obtain rfl:=EF.1 hb;have ig:=hr.sat.site _ _ _ hm;obtain ⟨E,σ',v',M',h1,h2,h3,h4⟩:=Za (b7:=b7) (L:=L) hr (show XE L tm M b7 K (.st n x v) from h);have db:=hr.ev e1 (by intro e;cases e);rw[IW,ig]at db;have key : ∀ vs,cellsOf (st.ev v)=some vs->vs.length=n -> ∃ o',st.own.rk s' (σ key 0).2 i j vs=some o'/\E = .fp (.g8 []) o':=λ vs ij hn=>by
    have:=h1 0
    simp only[e9,db,ij]at this;rw[if_pos hn,Option.map_eq_some_iff]at this;obtain ⟨o',a1,a2⟩:=this;exact ⟨o',a1,a2.symm⟩
   cases ij:cellsOf (st.ev v) with
   | none=>have:=h1 0;simp [e9,db,ij]at this
   | some vs =>
    by_cases hn:vs.length=n
    ·obtain ⟨o',a1,rfl⟩:=key vs ij hn
     refine ⟨.w6 s' (o' s'),σ',v',M',λ C => ?_,h2,h3,?_⟩
     ·simp only[e9,db,ij]
      rw[if_pos ⟨trivial,hn⟩,a1];rfl
     ·have e2:(FB.res st.own (.w6 s' (o' s'))).2=o':=AqX a1
      rw[e2];exact h4
    ·have:=h1 0
     simp only[e9,db,ij]at this;rw[if_neg hn]at this;cases this
  ·exact h.elim
 ·exact h.elim
theorem AiQ {ne:Bool} {x:BL} (hr:RX σ tm M st) (h:XE L tm M b7 K (.wh ne x)):EI L tm b7 K (.wh ne x) st:=by
 simp only[XE]at h;split at h
 ·rename_i e1
  rw[Z3]at h;exact EI.val hr _ (λ C=>by simp only[e9,hr.ev e1 (by intro e;cases e),KX,MM]) h
 ·rename_i b e1
  rw[Z3]at h;exact EI.val hr _ (λ C=>by simp only[e9,hr.ev e1 (by intro e;cases e),Aqo,MM]) h
 ·rename_i q es e1
  obtain ⟨h0,h⟩:=h;rw[Z3]at h;cases es with
  | nil=>exact absurd rfl h0
  | cons e es=>exact EI.val hr _ (λ C=>by simp only[e9,hr.ev e1 (by intro e;cases e),NJ,MM]) h
 ·rename_i s t z o n e1
  obtain ⟨h0,h⟩:=h;rw[Z3]at h;cases n with
  | zero=>exact absurd h0 (by omega)
  | succ n=>exact EI.val hr _ (λ C=>by simp only[e9,hr.ev e1 (by intro e;cases e),HK,MM]) h
 ·exact h.elim
theorem AiY {tb:List Nat} {x:BL} (hr:RX σ tm M st) (h:XE L tm M b7 K (.js tb x)):EI L tm b7 K (.js tb x) st:=by
 simp only[XE]at h;split at h
 ·rename_i k n e1
  obtain ⟨h0,v,h1,h2⟩:=h;exact EI.val hr _ (λ C=>by simp only[e9,hr.ev e1 (by intro e;cases e),M4,h1];rw[if_pos h0]) h2
 ·exact h.elim
theorem Ana {v:AV} {K:AV->Prop} (h:fF v K):v ≠ .any/\L3 (C8 σ v)=some (C2 σ v)/\K v:=by
 cases v<;>first|exact (h:False).elim|exact ⟨(by intro e;cases e),rfl,h⟩
theorem AeW (hr:RX σ tm M st) : ∀ {l:List BL} {K:List AV->Prop},xU tm l K -> ∃ cs,l.mapM (λ x=>L3 (st.ev x))=some (cs.map (C2 σ))/\K cs
 | [],K,h=>⟨[],rfl,h⟩
 | x::r,K,h=>by
  obtain ⟨h0,hc,h⟩:=Ana (σ:=σ) (show fF (ex tm x) λ v=>xU tm r λ cs=>K (v::cs) from h);obtain ⟨cs,h1,h2⟩:=AeW hr h;refine ⟨ex tm x::cs,?_,h2⟩;rw[List.mapM_cons,h1,hr.ev rfl h0,hc];rfl
theorem AiU {p:Bool} {f:Nat} {xs:List BL} (hr:RX σ tm M st) (h:XE L tm M b7 K (.td p f xs)):EI L tm b7 K (.td p f xs) st:=by
 simp only[XE]at h;obtain ⟨cs,h1,h2⟩:=AeW hr h;exact EI.val hr _ (λ C=>by simp only[e9,h1,Option.map_some,qU,List.isEmpty_map];rfl) h2
theorem Acl (hr:RX σ tm M st) {v:AV} {K:List (List AV)->Prop} (h:jP M v K):v ≠ .any /\ ∃ es,IM st.own (C8 σ v)=some es/\K es:=by
 cases v with
 | sl q es=>exact ⟨(by intro e;cases e),_,rfl,h⟩
 | nil=>exact ⟨(by intro e;cases e),_,rfl,h⟩
 | dc v =>
  cases v with
  | bool b=>exact ⟨(by intro e;cases e),_,rfl,h⟩
  | _=>exact (h:False).elim
 | row key t z off len =>
  simp only[jP]at h;obtain ⟨z',es,g,h⟩:=Aqn hr h;cases hz:Nat.beq z z'<;>simp only[hz,cond_true,cond_false]at h;obtain rfl:=EF.1 hz;refine ⟨(by intro e;cases e),_,?_,h.2⟩;simp only[HK,IM,BD.get,g];rw[if_pos ⟨h.1,trivial⟩]
 | _=>exact (h:False).elim
theorem xV (hr:RX σ tm M st) {o:Option BL} {K:Option Int->Prop} (h:pY tm o K):(o=none/\K none) \/ ∃ x k n,o=some x/\st.ev x = .int k n/\K (some n):=by
 unfold pY at h;split at h
 ·exact Or.inl ⟨rfl,h⟩
 ·split at h
  ·rename_i e
   exact Or.inr ⟨_,_,_,rfl,hr.ev e (by intro e;cases e),h⟩
  ·exact h.elim
theorem AiZ {z:Nat} {x:BL} {lo hi:Option BL} (hr:RX σ tm M st) (h:XE L tm M b7 K (.gn z x lo hi)):EI L tm b7 K (.gn z x lo hi) st:=by
 simp only[XE]at h;have go : ∀ (a b:Option Int),(match ex tm x with
   | .sl l es=>E5 z es a b λ es=>K (.sl l es) M
   | .row key t z' off len=>bif Nat.beq z' z then EH a b len λ a h=>K (.row key t z (off+a) (h-a)) M else False
   | .nil=>(match a,b with
    | none,none=>K .nil M
    | some a,none=>BU (a=0) (K .nil M)
    | none,some h=>BU (h=0) (K .nil M)
    | some a,some h=>BU (a=0/\h=0) (K .nil M))
   | _=>False)->(lo=none/\a=none \/ ∃ y k n,lo=some y/\st.ev y = .int k n/\a=some n)->(hi=none/\b=none \/ ∃ y k n,hi=some y/\st.ev y = .int k n/\b=some n)->EI L tm b7 K (.gn z x lo hi) st:=by
  intro a b h ha hb;split at h
  ·rename_i q es e
   obtain ⟨g1,a',h',g2,g3,g4,h⟩:=h;refine EI.val hr _ (λ C => ?_) h;rcases ha with ⟨rfl,rfl⟩|⟨y,k,n,rfl,e1,rfl⟩<;>rcases hb with ⟨rfl,rfl⟩|⟨y',k',n',rfl,e2,rfl⟩<;>try simp only at g2 g3<;>simp only[e9,hr.ev e (by intro e;cases e),NJ, *]<;>simp_all
  ·rename_i key t z' off len e
   cases hz:Nat.beq z' z<;>simp only[hz,cond_true,cond_false]at h;obtain rfl:=EF.1 hz;obtain ⟨a',h',g2,g3,g4,h⟩:=h;refine EI.val hr _ (λ C => ?_) h;rcases ha with ⟨rfl,rfl⟩|⟨y,k,n,rfl,e1,rfl⟩<;>rcases hb with ⟨rfl,rfl⟩|⟨y',k',n',rfl,e2,rfl⟩<;>try simp only at g2 g3<;>simp only[e9,hr.ev e (by intro e;cases e),HK, *]<;>simp_all
  ·rename_i e
   rcases ha with ⟨rfl,rfl⟩|⟨y,k,n,rfl,e1,rfl⟩<;>rcases hb with ⟨rfl,rfl⟩|⟨y',k',n',rfl,e2,rfl⟩<;>simp only at h
   ·exact EI.val hr .nil (λ C=>by simp only[e9,hr.ev e (by intro e;cases e),KX]) h
   ·exact EI.val hr .nil (λ C=>by simp only[e9,hr.ev e (by intro e;cases e),KX,e2,h.1,if_true]) h.2
   ·exact EI.val hr .nil (λ C=>by simp only[e9,hr.ev e (by intro e;cases e),KX,e1,h.1,if_true]) h.2
   ·exact EI.val hr .nil (λ C=>by simp only[e9,hr.ev e (by intro e;cases e),KX,e1,e2,h.1.1,h.1.2,if_true]) h.2
  ·exact h.elim
 rcases xV hr h with ⟨h1,h⟩|⟨y,k,n,h1,h2,h⟩
 ·rcases xV hr h with ⟨g1,h⟩|⟨y,k,n,g1,g2,h⟩
  ·exact go _ _ h (Or.inl ⟨h1,rfl⟩) (Or.inl ⟨g1,rfl⟩)
  ·exact go _ _ h (Or.inl ⟨h1,rfl⟩) (Or.inr ⟨_,_,_,g1,g2,rfl⟩)
 ·rcases xV hr h with ⟨g1,h⟩|⟨y',k',n',g1,g2,h⟩
  ·exact go _ _ h (Or.inr ⟨_,_,_,h1,h2,rfl⟩) (Or.inl ⟨g1,rfl⟩)
  ·exact go _ _ h (Or.inr ⟨_,_,_,h1,h2,rfl⟩) (Or.inr ⟨_,_,_,g1,g2,rfl⟩)
theorem yU {s key:Nat} : ∀ {M:Mem},L5 s M=false->L5 s (w5 key M)=false
 | [],_=>rfl
 | (i,s0,c0)::r,h=>by
  simp only[L5]at h;cases q0:Nat.beq s i<;>simp only[q0,cond_true,cond_false]at h
  ·cases q1:NH s c0<;>simp only[q1,cond_true,cond_false]at h
   ·simp only[w5]
    cases Nat.beq key i
    ·simp only[cond_false,L5,q0,q1,yU h]
    ·simp only[cond_true,yU h]
   ·cases h
  ·cases h
theorem AiD {s z bytes:Nat} {x y:BL} (hr:RX σ tm M st) (h:jP M (ex tm y) λ ys=>match ex tm x with
   | .row key 0 z' off len=>bif Nat.beq off 0 then bif Nat.beq z' z then (match c4 M key with
    | some (s',.rw ft es)=>bif Nat.beq ft z then fM (w5 key M) λ M'=>(DE es len ys z bytes λ es' n=>MC s tm M λ k=>K (.row k 0 z 0 n) ((k,s',.rw z es')::M')) else False
    | _=>False) else False else False
   | .row key (i+1) z' off len=>bif Nat.beq off 0 then bif Nat.beq z' z then (match c4 M key with
    | some (sk,.mx rows)=>fM (w5 key M) λ M'=>E2 rows i λ ft es=>bif Nat.beq ft z then (DE es len ys z bytes λ es' n => ∀ s' v,MC s tm M λ k=>K (.row k 0 z 0 n) ((k,s',.rw z es')::(key,sk,.hx i v (rows.set i none))::M')) else False
    | _=>False) else False else False
   | .nil=>bif J9 s then FA ys z bytes λ es n=>MC s tm M λ k=>K (.row k 0 z 0 n) ((k,s,.rw z es)::M) else False
   | _=>False):EI L tm b7 K (.app s z bytes x y) st:=by
 obtain ⟨h0,ys,hy,h⟩:=Acl hr h;have Ai:IM st.own (st.ev y)=some ys:=by rw[hr.ev rfl h0];exact hy
 split at h
 ·rename_i key z' off len e
  cases ho:Nat.beq off 0<;>simp only[ho,cond_true,cond_false]at h;cases hz:Nat.beq z' z<;>simp only[hz,cond_true,cond_false]at h;obtain rfl:=EF.1 ho;obtain rfl:=EF.1 hz;split at h
  ·rename_i s' ft es hm
   cases sz:Nat.beq ft z'<;>simp only[sz,cond_true,cond_false]at h;obtain rfl:=EF.1 sz;rw[YP]at h;obtain ⟨g1,g2,g3,g4,h⟩:=h;obtain ⟨k,h1,h2,h3⟩:=OL h;have hs:=hr.sat.site _ _ _ hm;have bh:=hr.sat.c9 _ _ _ (IJ hm);have hn:=(hr.kill hm).mn (s:=k) (q:=s') (yU h1) h2 (.rw ft (es.take len++ys)) trivial rfl (λ_=>by have:=hr.sat.low _ _ _ (IJ hm) rfl;rwa [hs]at this);have Ro:(st.own.put s' ((st.own s').w6 (σ key 0).2 none)).j5 s'=st.own.j5 s':=by simp [BD.j5,BD.l6,E4.w6]
   simp only[BD.l6,BD.vl,Ro]at hn;refine ⟨.fp (.row s' (st.own.j5 s') ft 0 (len+ys.length)) (st.own.put s' (((st.own s').w6 (σ key 0).2 none).new ⟨ft,es.take len++ys⟩)),_,_,_,λ C => ?_,h3,?_,hn⟩
   ·rw[hs]at bh
    simp only[e9,Ai,hr.ev e (by intro e;cases e),HK,BD.get,hs,bh,C3.c9];rw[if_pos g2,if_pos ⟨trivial,trivial,g1,g3,g4⟩]
   ·simp only[FB.res,HK,EL]
  ·exact h.elim
 ·rename_i key i z' off len e
  cases ho:Nat.beq off 0<;>simp only[ho,cond_true,cond_false]at h;cases hz:Nat.beq z' z<;>simp only[hz,cond_true,cond_false]at h;obtain rfl:=EF.1 ho;obtain rfl:=EF.1 hz;split at h
  ·rename_i sk rows hm
   rw[YP]at h;obtain ⟨ft,es,g0,h⟩:=h;cases sz:Nat.beq ft z'<;>simp only[sz,cond_true,cond_false]at h;obtain rfl:=EF.1 sz;obtain ⟨g1,g2,g3,g4,h⟩:=h;have h:=h (σ key (i+1)).1 (.row (σ key (i+1)).1 (σ key (i+1)).2 ft 0 es.length);obtain ⟨k,h1,h2,h3⟩:=OL h;have bh:=hr.sat.c9 key (i+1) (.rw ft es) (by simp [b9,hm,g0]);have hn:=hr.Rg (s:=k) (es':=es.take len++ys) hm g0 h1 h2;refine ⟨.fp (.row (σ key (i+1)).1 (st.own.j5 (σ key (i+1)).1) ft 0 (len+ys.length)) (st.own.put (σ key (i+1)).1 (((st.own (σ key (i+1)).1).w6 (σ key (i+1)).2 none).new ⟨ft,es.take len++ys⟩)),_,_,_,λ C => ?_,h3,?_,hn⟩
   ·simp only[e9,Ai,hr.ev e (by intro e;cases e),HK,BD.get,bh,C3.c9]
    rw[if_pos g2,if_pos ⟨trivial,trivial,g1,g3,g4⟩]
   ·simp only[FB.res,HK,EL]
  ·exact h.elim
 ·rename_i e
  cases ng:J9 s<;>simp only[ng,cond_true,cond_false]at h;obtain ⟨g2,g3,g4,h⟩:=h;obtain ⟨k,h1,h2,h3⟩:=OL h;refine ⟨.fp (.row s (st.own.j5 s) z 0 ys.length) (st.own.put s ((st.own s).new ⟨z,ys⟩)),_,_,_,λ C => ?_,h3,?_,hr.mn h1 h2 (.rw z ys) trivial rfl (λ_=>ng)⟩
  ·simp only[e9,Ai,hr.ev e (by intro e;cases e),KX]
   rw[if_pos g2,if_pos ⟨g3,g4⟩]
  ·simp only[FB.res,HK,EL]
 ·exact h.elim
theorem Ajc {v:AV} {ky k2 z n:Nat} (h:aZ M v=some (ky,some (k2,z,n))):v = .row ky 0 1 0 1 /\ ∃ sy,c4 M ky=some (sy,.bs 1 [[.row k2 0 z 0 n]]):=by
 unfold aZ at h;split at h
 ·split at h
  ·rename_i hm
   simp only[Option.some.injEq,Prod.mk.injEq]at h;obtain ⟨rfl,rfl,rfl,rfl⟩:=h;exact ⟨rfl,_,hm⟩
  ·simp at h
  ·cases h
 ·cases h
theorem Ajb {v:AV} {ky:Nat} (h:aZ M v=some (ky,none)):v = .row ky 0 1 0 1 /\ ∃ sy,c4 M ky=some (sy,.rw 1 [[.nil]]):=by
 unfold aZ at h;split at h
 ·split at h
  ·simp at h
  ·rename_i hm
   simp only[Option.some.injEq,Prod.mk.injEq,and_true]at h;subst h;exact ⟨rfl,_,hm⟩
  ·cases h
 ·cases h
theorem AiC {s z bytes:Nat} {x y:BL} (hr:RX σ tm M st) (h:XE L tm M b7 K (.app s z bytes x y)):EI L tm b7 K (.app s z bytes x y) st:=by
 simp only[XE]at h;cases hV:Nat.ble 800000 s<;>simp only[hV,cond_true,cond_false]at h;split at h
 ·rename_i ky k2 z2 n2 Tk
  obtain ⟨qz,sy,Cb⟩:=Ajc Tk;have pc:=hr.sat.site _ _ _ Cb;have yn:=hr.sat.c9 _ _ _ (IJ Cb);rw[pc]at yn
  have Mw:IM st.own (st.ev y)=some [[.row (σ k2 0).1 (σ k2 0).2 z2 0 n2]]:=by
   rw[hr.ev qz (by intro e;cases e)];simp only[HK,IM,BD.get,pc,yn,C3.c9,C2,List.map_cons,List.map_nil,List.length_cons,List.length_nil];simp
  split at h
  ·rename_i key z' off len e
   cases ho:Nat.beq off 0<;>simp only[ho,cond_true,cond_false]at h;cases hz:Nat.beq z' 1<;>simp only[hz,cond_true,cond_false]at h;cases ni:Nat.beq z 1<;>simp only[ni,cond_true,cond_false]at h;cases np:Nat.beq key k2<;>simp only[np,cond_true,cond_false]at h;cases Vb:Nat.beq key ky<;>simp only[Vb,cond_true,cond_false]at h;cases hk3:Nat.beq k2 ky<;>simp only[hk3,cond_true,cond_false]at h;obtain rfl:=EF.1 ho;obtain rfl:=EF.1 hz;obtain rfl:=EF.1 ni;split at h
   ·rename_i s2 z3 es er
    cases Mx:Nat.beq z2 z3<;>simp only[Mx,cond_true,cond_false]at h;obtain rfl:=EF.1 Mx;split at h
    ·rename_i s' rows hm
     rw[YP]at h;obtain ⟨rfl,rfl,g3,g4,h⟩:=h;obtain ⟨k,h1,h2,h3⟩:=OL h;have hs:=hr.sat.site _ _ _ hm;have bh:=hr.sat.c9 _ _ _ (IJ hm);rw[hs]at bh;refine ⟨.fp (.row s' (st.own.j5 s') 1 0 (rows.length+1)) (st.own.put s' (((st.own s').w6 (σ key 0).2 none).new ⟨1,FC σ key 0 rows++[[.row (σ k2 0).1 (σ k2 0).2 z2 0 es.length]]⟩)),_,_,_,λ C => ?_,h3,?_,hr.Rh (ky:=ky) hm er (J6.1 np) h1 h2⟩
     ·simp only[e9,Mw,hr.ev e (by intro e;cases e),HK,BD.get,hs,bh,C3.c9]
      rw[if_pos (by simp),if_pos ⟨trivial,trivial,by rw[KT];exact Nat.le_refl _,by simpa using g3,by simpa using g4⟩];rw[zT (by rw[KT];exact Nat.le_refl _)];rfl
     ·simp only[FB.res,HK,EL]
    ·exact h.elim
   ·exact h.elim
  ·rename_i e
   cases ng:J9 s<;>simp only[ng,cond_true,cond_false]at h;cases ni:Nat.beq z 1<;>simp only[ni,cond_true,cond_false]at h;obtain rfl:=EF.1 ni;split at h
   ·rename_i s2 z3 es er
    cases Mx:Nat.beq z2 z3<;>simp only[Mx,cond_true,cond_false]at h;obtain rfl:=EF.1 Mx;rw[YP]at h;obtain ⟨⟨rfl,g3⟩,h⟩:=h;obtain ⟨k,h1,h2,h3⟩:=OL h;obtain ⟨σ',q1,q2⟩:=hr.Xm (q:=s) er (λ e=>(cP h1 _ _ _ er).1 e.symm) h1 h2 ng;refine ⟨.fp (.row s (st.own.j5 s) 1 0 1) (st.own.put s ((st.own s).new ⟨1,[[.row (σ k2 0).1 (σ k2 0).2 z2 0 es.length]]⟩)),σ',_,_,λ C => ?_,h3,?_,q2⟩
    ·simp only[e9,Mw,hr.ev e (by intro e;cases e),KX]
     rw[if_pos (by simp),if_pos ⟨by simpa [I3] using g3,by simp⟩];rfl
    ·simp only[FB.res,HK,q1]
   ·exact h.elim
  ·exact h.elim
 ·rename_i ky Tk
  obtain ⟨qz,sy,Cb⟩:=Ajb Tk;have pc:=hr.sat.site _ _ _ Cb;have yn:=hr.sat.c9 _ _ _ (IJ Cb);rw[pc]at yn
  have Mw:IM st.own (st.ev y)=some [[.nil]]:=by
   rw[hr.ev qz (by intro e;cases e)];simp only[HK,IM,BD.get,pc,yn,C3.c9,List.length_cons,List.length_nil];simp
  split at h
  ·rename_i key z' off len e
   cases ho:Nat.beq off 0<;>simp only[ho,cond_true,cond_false]at h;cases hz:Nat.beq z' 1<;>simp only[hz,cond_true,cond_false]at h;cases ni:Nat.beq z 1<;>simp only[ni,cond_true,cond_false]at h;cases Vb:Nat.beq key ky<;>simp only[Vb,cond_true,cond_false]at h;obtain rfl:=EF.1 ho;obtain rfl:=EF.1 hz;obtain rfl:=EF.1 ni;split at h
   ·rename_i s' rows hm
    rw[YP]at h;obtain ⟨rfl,g3,g4,h⟩:=h;obtain ⟨k,h1,h2,h3⟩:=OL h;have hs:=hr.sat.site _ _ _ hm;have bh:=hr.sat.c9 _ _ _ (IJ hm);rw[hs]at bh;refine ⟨.fp (.row s' (st.own.j5 s') 1 0 (rows.length+1)) (st.own.put s' (((st.own s').w6 (σ key 0).2 none).new ⟨1,FC σ key 0 rows++[[.nil]]⟩)),_,_,_,λ C => ?_,h3,?_,hr.Ri hm h1 h2⟩
    ·simp only[e9,Mw,hr.ev e (by intro e;cases e),HK,BD.get,hs,bh,C3.c9]
     rw[if_pos (by simp),if_pos ⟨trivial,trivial,by rw[KT];exact Nat.le_refl _,by simpa using g3,by simpa using g4⟩];rw[zT (by rw[KT];exact Nat.le_refl _)];rfl
    ·simp only[FB.res,HK,EL]
   ·exact h.elim
  ·rename_i e
   cases ng:J9 s<;>simp only[ng,cond_true,cond_false]at h;cases ni:Nat.beq z 1<;>simp only[ni,cond_true,cond_false]at h;obtain rfl:=EF.1 ni;obtain ⟨g3,h⟩:=h;obtain ⟨k,h1,h2,h3⟩:=OL h;have jf:C3.flat (.mx [none]):=by
    intro i x hx;cases i with
    | zero=>simp at hx
    | succ i=>simp at hx
   refine ⟨.fp (.row s (st.own.j5 s) 1 0 1) (st.own.put s ((st.own s).new ⟨1,[[.nil]]⟩)),_,_,_,λ C => ?_,h3,?_,hr.mn h1 h2 (.mx [none]) jf rfl (λ_=>ng)⟩
   ·simp only[e9,Mw,hr.ev e (by intro e;cases e),KX]
    rw[if_pos (by simp),if_pos ⟨by simpa [I3] using g3,by simp⟩];rfl
   ·simp only[FB.res,HK,EL]
  ·exact h.elim
 ·exact AiD hr h
theorem AiK {z:Nat} {x y:BL} (hr:RX σ tm M st) (h:XE L tm M b7 K (.pz z x y)):EI L tm b7 K (.pz z x y) st:=by
 simp only[XE]at h;obtain ⟨h0,ys,hy,h⟩:=Acl hr h;have Ai:IM st.own (st.ev y)=some ys:=by rw[hr.ev rfl h0];exact hy
 split at h
 ·rename_i key z' off len e
  cases hz:Nat.beq z' z<;>simp only[hz,cond_true,cond_false]at h;obtain rfl:=EF.1 hz;split at h
  ·rename_i s' ft es hm
   cases sz:Nat.beq ft z'<;>simp only[sz,cond_true,cond_false]at h;obtain rfl:=EF.1 sz;obtain ⟨g1,g2,h⟩:=h;have hs:=hr.sat.site _ _ _ hm;have bh:=hr.sat.c9 _ _ _ (IJ hm);refine ⟨.fp (.int .i64 (min ys.length len:Nat)) (st.own.put s' ((st.own s').w6 (σ key 0).2 (some ⟨ft,es.take off++ys.take len++es.drop (off+min ys.length len)⟩))),_,_,_,λ C => ?_,h,rfl,hr.Pz hm trivial (.rw ft _) trivial (λ_=>rfl)⟩;rw[hs]at bh;simp only[e9,Ai,hr.ev e (by intro e;cases e),HK,BD.get,hs,bh,C3.c9];rw[if_pos ⟨trivial,trivial,g1,g2⟩]
  ·exact h.elim
 ·exact h.elim
end
end Go.b8
