/-
  The walk by computation is sound.
-/
import Derived.Test.YtmalpgkkffcbfaaGreatB5
set_option linter.unusedSimpArgs false
set_option linter.unusedVariables false
set_option linter.unnecessarySimpa false
namespace Go.b8
theorem BQ {a b:Nat}:Nat.beq a b=true↔a=b:=⟨Nat.eq_of_beq_eq_true,λ h=>by subst h;simp⟩
theorem E7 {a b:Nat}:Nat.beq a b=false↔a≠b:=by
 constructor
 ·exact Nat.ne_of_beq_eq_false
 ·intro h
  cases e:Nat.beq a b
  ·rfl
  ·exact absurd (Nat.eq_of_beq_eq_true e) h
theorem KD (j:Nat) : ∀ tm:Tm,tg tm j=e5 tm j
 | []=>rfl
 | (i,v)::r=>by
  simp only[tg,V9,KD j r];cases e:Nat.beq j i
  ·rw[if_neg (E7.1 e)];rfl
  ·rw[if_pos (BQ.1 e)];rfl
theorem G4 : ∀ (l:List AV) (K:List AV->Prop),fL l K=K l
 | [],_=>rfl
 | v::r,K=>by rw[fL,G4 r]
theorem S0 : ∀ (l:Tm) (K:Tm->Prop),fT l K=K l
 | [],_=>rfl
 | (i,v)::r,K=>by rw[fT,S0 r]
theorem O3 : ∀ (l:Mem) (K:Mem->Prop),fM l K=K l
 | [],_=>rfl
 | (k,s,c)::r,K=>by rw[fM,O3 r]
theorem Aeb (n:Nat) (K:Nat->Prop):fN n K=K n:=by cases n<;>rfl
theorem aR (m i:Nat):bit m i=m.testBit i:=by
 have h:Nat.land (Nat.shiftRight m i) 1=(m >>> i)%2:=Nat.and_one_is_mod (m >>> i);have ht:m.testBit i=decide ((m >>> i)%2=1):=by
  rw[Nat.testBit,Nat.and_comm,Nat.and_one_is_mod];rcases Nat.mod_two_eq_zero_or_one (m >>> i) with e|e<;>simp [e]
 unfold bit;rw[h,ht];rcases Nat.mod_two_eq_zero_or_one (m >>> i) with e|e<;>rw[e]<;>rfl
theorem kL (m i j:Nat):bit (Nat.lor m (Nat.shiftLeft 1 i)) j=(bit m j||decide (j=i)):=by
 rw[aR,aR];show (m ||| (1 <<< i)).testBit j=_;rw[Nat.testBit_or,Nat.testBit_shiftLeft];congr 1;by_cases h:j=i
 ·subst h;simp
 ·by_cases h2:j≥i
  ·obtain ⟨d,rfl⟩ : ∃ d,j=i+d+1:=⟨j-i-1,by omega⟩
   rw[show i+d+1-i=d+1 by omega,Nat.testBit_succ];simp [h]
  ·simp [h2,h]
theorem kK : ∀ (ts:List Nat) (m j:Nat),bit (mask m ts) j=(bit m j||ts.contains j)
 | [],m,j=>by simp [mask]
 | t::ts,m,j=>by
  rw[mask,kK ts,kL,List.contains_cons,Bool.or_assoc];congr 2
theorem aS (j:Nat):bit 0 j=false:=by rw[aR];simp
theorem V7 (j:Nat) : ∀ (tm:Tm) (m:Nat),tg (wc m tm) j=bif bit m j then .any else tg tm j
 | [],m=>by cases bit m j<;>rfl
 | (i,v)::r,m=>by
  simp only[wc];cases hb:bit m i
  ·simp only[cond_false,tg,V7 j r,kL]
   cases hj:Nat.beq j i
   ·have:decide (j=i)=false:=by simpa using E7.1 hj
    simp only[cond_false,this,Bool.or_false]
   ·obtain rfl:=BQ.1 hj
    simp only[cond_true,hb,cond_false]
  ·simp only[cond_true,tg,V7 j r]
   cases hj:Nat.beq j i
   ·rfl
   ·obtain rfl:=BQ.1 hj
    simp only[hb,cond_true]
theorem YD {v:AV} {K:AV->Prop} (h:fV v K):v ≠ .any/\K v:=by
 cases v<;>simp only[fV,G4]at h<;>first|exact h.elim|exact ⟨(by intro e;cases e),h⟩
theorem YC {v:AV} {K:List AV->Prop} (h:fC v K):v ≠ .any /\ ∃ cs,cellsOf v=some cs/\K cs:=by
 cases v<;>simp only[fC,fV,G4]at h<;>first|exact h.elim|exact ⟨(by intro e;cases e),_,rfl,h⟩
theorem P2 (b:Bool) (K:Bool->Prop):fB b K=K b:=by cases b<;>rfl
theorem wV {k:Nat} {tm:Tm} {M:Mem} (h:used k tm M=false):GK k M=false/\HH k tm=false:=by
 unfold used at h;cases h1:GK k M<;>simp only[h1,cond_true,cond_false]at h
 ·exact ⟨rfl,h⟩
 ·cases h
theorem tN {tm:Tm} {M:Mem} {K:Nat->Prop} : ∀ {l:List Nat},ZC tm M l K -> ∃ k,GK k M=false/\HH k tm=false/\K k
 | [],h=>h.elim
 | k::r,h=>by
  simp only[ZC]at h;cases h0:used k tm M<;>simp only[h0,cond_true,cond_false]at h
  ·exact ⟨k,(wV h0).1,(wV h0).2,h⟩
  ·exact tN h
theorem HL {s:Nat} {tm:Tm} {M:Mem} {K:Nat->Prop} (h:GA s tm M K) : ∃ k,GK k M=false/\HH k tm=false/\K k:=tN h
section
variable {σ:E0}
def CX (σ:E0) (k:Nat) (f:Nat->Nat × Nat):E0:=λ j t=>if j=k then f t else σ j t
theorem CH {k j:Nat} (f:Nat->Nat × Nat) (h:j≠k):CX σ k f j=σ j:=by funext t;simp [CX,h]
theorem BR (k:Nat) (f:Nat->Nat × Nat):CX σ k f k=f:=by funext t;simp [CX]
theorem hZ {k:Nat} {p:Nat->Nat × Nat} {v:AV} (h:NL k v=false):A7 (CX σ k p) v=A7 σ v:=by
 cases v with
 | row j t z o n=>simp only[NL]at h;simp only[A7,CH p (E7.1 h)]
 | ptr j t a b=>simp only[NL]at h;simp only[A7,CH p (E7.1 h)]
 | _=>rfl
theorem TN {k:Nat} {p:Nat->Nat × Nat} : ∀ {cs:List AV},H5 k cs=false->cs.map (A7 (CX σ k p))=cs.map (A7 σ)
 | [],_=>rfl
 | c::r,h=>by
  simp only[H5]at h;cases h1:NL k c<;>simp only[h1,cond_true,cond_false]at h
  ·rw[List.map_cons,List.map_cons,hZ h1,TN h]
  ·cases h
theorem hH {k:Nat} {p:Nat->Nat × Nat} : ∀ {es:List (List AV)},QB k es=false->(es.map λ cs=>cs.map (A7 (CX σ k p)))=es.map λ cs=>cs.map (A7 σ)
 | [],_=>rfl
 | c::r,h=>by
  simp only[QB]at h;cases h1:H5 k c<;>simp only[h1,cond_true,cond_false]at h
  ·rw[List.map_cons,List.map_cons,TN h1,hH h]
  ·cases h
theorem V3 {k:Nat} {p:Nat->Nat × Nat} {v:AV} (h:PD k v=false):BJ (CX σ k p) v=BJ σ v:=by
 cases v with
 | agg cs=>simp only[PD]at h;simp only[BJ,TN h]
 | fn p f g cs=>simp only[PD]at h;simp only[BJ,TN h]
 | row a b c d e=>exact hZ (v := .row a b c d e) h
 | ptr a b c d=>exact hZ (v := .ptr a b c d) h
 | _=>rfl
theorem vO {k:Nat} {p:Nat->Nat × Nat} : ∀ {cs:List AV},TH k cs=false->cs.map (BJ (CX σ k p))=cs.map (BJ σ)
 | [],_=>rfl
 | c::r,h=>by
  simp only[TH]at h;cases h1:PD k c<;>simp only[h1,cond_true,cond_false]at h
  ·rw[List.map_cons,List.map_cons,V3 h1,vO h]
  ·cases h
theorem ZX {k:Nat} {p:Nat->Nat × Nat} {v:AV} (h:NM k v=false):BG (CX σ k p) v=BG σ v:=by
 cases v with
 | e6 cs=>simp only[NM]at h;simp only[BG,vO h]
 | agg cs=>exact V3 (v := .agg cs) h
 | fn p f g cs=>exact V3 (v := .fn p f g cs) h
 | row a b c d e=>exact V3 (v := .row a b c d e) h
 | ptr a b c d=>exact V3 (v := .ptr a b c d) h
 | _=>rfl
theorem TI {k:Nat} : ∀ {tm:Tm},HH k tm=false -> ∀ j,NM k (tg tm j)=false
 | [],_,_=>rfl
 | (i,v)::r,h,j=>by
  simp only[HH]at h;cases h1:NM k v<;>simp only[h1,cond_true,cond_false]at h
  ·simp only[tg]
   cases Nat.beq j i
   ·exact TI h j
   ·exact h1
  ·cases h
theorem RQ {k:Nat} : ∀ {M:Mem},GK k M=false -> ∀ j s c,b7 M j=some (s,c)->j≠k/\HG k c=false
 | [],_,_,_,_,e=>by cases e
 | (i,s0,c0)::r,h,j,s,c,e=>by
  simp only[GK]at h;cases h0:Nat.beq k i<;>simp only[h0,cond_true,cond_false]at h
  ·cases h1:HG k c0<;>simp only[h1,cond_true,cond_false]at h
   ·simp only[b7]at e
    cases h2:Nat.beq j i<;>simp only[h2,cond_true,cond_false]at e
    ·exact RQ h j s c e
    ·simp only[Option.some.injEq,Prod.mk.injEq]at e
     obtain ⟨_,rfl⟩:=e;exact ⟨λ e=>E7.1 h0 (e.symm.trans (BQ.1 h2)),h1⟩
   ·cases h
  ·cases h
theorem P7 {σ σ':E0} {k:Nat} : ∀ (rows:List (Option (Nat × List (List AV)))) (i:Nat),(∀ j,i<=j->σ k (j+1)=σ' k (j+1))->B6 σ k i rows=B6 σ' k i rows
 | [],i,h=>rfl
 | none::r,i,h=>by rw[B6,B6,P7 r (i+1) λ j hj=>h j (by omega)]
 | some (z,es)::r,i,h=>by rw[B6,B6,P7 r (i+1) λ j hj=>h j (by omega),h i (by omega)]
theorem E2 {k:Nat} : ∀ (rows:List (Option (Nat × List (List AV)))) (i j:Nat),(B6 σ k i rows)[j]? = (rows[j]?).map λ r=>match r with|none=>[.nil]|some (z,es)=>[.row (σ k (i+j+1)).1 (σ k (i+j+1)).2 z 0 es.length]
 | [],i,j=>by simp [B6]
 | none::r,i,0=>by simp [B6]
 | none::r,i,j+1=>by simp only[B6,List.getElem?_cons_succ,E2 r (i+1) j];rw[show i+1+j=i+(j+1) by omega]
 | some (z,es)::r,i,0=>by simp [B6]
 | some (z,es)::r,i,j+1=>by simp only[B6,List.getElem?_cons_succ,E2 r (i+1) j];rw[show i+1+j=i+(j+1) by omega]
theorem E3 {k:Nat} : ∀ (rows:List (Option (Nat × List (List AV)))) (i:Nat),(B6 σ k i rows).length=rows.length
 | [],i=>rfl
 | none::r,i=>by simp [B6,E3 r]
 | some (z,es)::r,i=>by simp [B6,E3 r]
theorem XA {k j:Nat} {f:Nat->Nat × Nat} {c:A8} (h:HG k c=false) (hj:j≠k):c.c7 (CX σ k f) j=c.c7 σ j:=by
 cases c with
 | bx cs=>simp only[HG]at h;simp only[A8.c7,TN h]
 | rw z es=>rfl
 | bs z es=>simp only[HG]at h;simp only[A8.c7,hH h]
 | mx rows=>simp only[A8.c7];rw[P7 rows 0 λ i _=>by rw[CH f hj]]
 | hx a v rows=>simp only[A8.c7];rw[P7 rows 0 λ i _=>by rw[CH f hj]]
 | vw w rows=>simp only[A8.c7];rw[P7 rows 0 λ i _=>by rw[CH f hj]]
theorem Ux {v:AV} (h:tz v=true):A7 σ v=v:=by cases v<;>first|rfl|cases h
theorem ID : ∀ {cs:List AV},D4 cs=true->cs.map (A7 σ)=cs
 | [],_=>rfl
 | c::r,h=>by
  simp only[D4]at h;cases h1:tz c<;>simp only[h1,cond_true,cond_false]at h
  ·cases h
  ·rw[List.map_cons,Ux h1,ID h]
theorem Uw {k:Nat} {v:AV} (h:tz v=true):NL k v=false:=by cases v<;>first|rfl|cases h
theorem bI {k:Nat} : ∀ {cs:List AV},D4 cs=true->H5 k cs=false
 | [],_=>rfl
 | c::r,h=>by
  simp only[D4]at h;cases h1:tz c<;>simp only[h1,cond_true,cond_false]at h
  ·cases h
  ·simp only[H5,Uw h1,bI h,cond_false]
theorem Wt (v:AV):cv v = .any\/(cv v=v/\BG σ v=v):=by
 cases v with
 | agg cs =>
  simp only[cv];cases h:D4 cs
  ·exact Or.inl rfl
  ·exact Or.inr ⟨rfl,by simp only[BG,BJ,ID h]⟩
 | e6 vs=>cases vs with
  | nil=>exact Or.inr ⟨rfl,rfl⟩
  | cons=>exact Or.inl rfl
 | fn p f g cs=>cases cs with
  | nil=>exact Or.inr ⟨rfl,rfl⟩
  | cons=>exact Or.inl rfl
 | _=>first|exact Or.inl rfl|exact Or.inr ⟨rfl,rfl⟩
theorem Wq {k:Nat} (v:AV):NM k (cv v)=false:=by
 cases v with
 | agg cs =>
  simp only[cv];cases h:D4 cs
  ·rfl
  ·exact bI h
 | e6 vs=>cases vs<;>rfl
 | fn p f g cs=>cases cs<;>rfl
 | _=>rfl
variable {tm:Tm} {M:Mem} {st:St}
theorem RX.ev (h:RX σ tm M st) {x:AP} {v:AV} (e:ex tm x=v) (hv:v ≠ .any):st.ev x=BG σ v:=by
 cases x with
 | t n =>
  simp only[ex]at e;rcases h.tm n with h|h
  ·exact absurd (e.symm.trans h) hv
  ·rw[e]at h;exact h
 | c u =>
  simp only[ex]at e;rcases Wt (σ:=σ) u with h|⟨h,h'⟩
  ·exact absurd (e.symm.trans h) hv
  ·rw[<-e,h,h'];rfl
theorem pB {k:Nat} (h:HH k tm=false) (x:AP):NM k (ex tm x)=false:=by
 cases x with
 | t n=>exact TI h n
 | c u=>exact Wq u
theorem uA {k:Nat} {v:AV} {cs:List AV} (h:NM k v=false) (e:cellsOf v=some cs):H5 k cs=false:=by
 cases v<;>simp only[cellsOf,Option.some.injEq,reduceCtorEq]at e<;>subst e<;>first|exact h|rfl|(simp only[NM,PD]at h;simp only[H5,h,cond_false])
theorem N4 {v:AV} {cs:List AV} (e:cellsOf v=some cs):cellsOf (BG σ v)=some (cs.map (A7 σ)):=by
 cases v<;>simp only[cellsOf,Option.some.injEq,reduceCtorEq]at e<;>subst e<;>rfl
def A8.flat:A8->Prop
 | .mx rows => ∀ (i:Nat) (x:Nat × List (List AV)),rows[i]? = some (some x)->False
 | .hx _ _ _=>False
 | .vw _ _=>False
 | _=>True
theorem D6 {M:Mem} {k s:Nat} {c:A8} (h:b7 M k=some (s,c)):a7 M k 0=some c:=by simp [a7,h]
theorem GF {M:Mem} {k t:Nat} {c:A8} (h:a7 M k t=some c) : ∃ s c0,b7 M k=some (s,c0)/\(t=0->c=c0)/\(∀ i,t=i+1 -> ∃ rows z es,((c0 = .mx rows \/ ∃ a v,c0 = .hx a v rows) \/ ∃ w,c0 = .vw w rows)/\rows[i]? = some (some (z,es))/\c = .rw z es):=by
 unfold a7 at h;cases hm:b7 M k with
 | none=>simp [hm]at h
 | some x =>
  obtain ⟨s,c0⟩:=x;simp only[hm]at h;refine ⟨s,c0,rfl,?_,?_⟩
  ·rintro rfl;exact (Option.some.inj h).symm
  ·rintro i rfl
   cases c0 with
   | mx rows =>
    simp only at h;cases hr:rows[i]? with
    | none=>simp [hr]at h
    | some r =>
     cases r with
     | none=>simp [hr]at h
     | some ze=>obtain ⟨z,es⟩:=ze;simp only[hr,Option.some.injEq]at h;exact ⟨rows,z,es,Or.inl (Or.inl rfl),hr,h.symm⟩
   | hx a v rows =>
    simp only at h;cases hr:rows[i]? with
    | none=>simp [hr]at h
    | some r =>
     cases r with
     | none=>simp [hr]at h
     | some ze=>obtain ⟨z,es⟩:=ze;simp only[hr,Option.some.injEq]at h;exact ⟨rows,z,es,Or.inl (Or.inr ⟨a,v,rfl⟩),hr,h.symm⟩
   | vw w rows =>
    simp only at h;cases hr:rows[i]? with
    | none=>simp [hr]at h
    | some r =>
     cases r with
     | none=>simp [hr]at h
     | some ze=>obtain ⟨z,es⟩:=ze;simp only[hr,Option.some.injEq]at h;exact ⟨rows,z,es,Or.inr ⟨w,rfl⟩,hr,h.symm⟩
   | _=>simp at h
theorem J5 {M:Mem} {k s:Nat} {c:A8} {j t:Nat} (h:j≠k):a7 ((k,s,c)::M) j t=a7 M j t:=by
 simp only[a7,b7,E7.2 h,cond_false]
theorem P5 {M:Mem} {k s:Nat} {c:A8}:a7 ((k,s,c)::M) k 0=some c:=by simp [a7,b7]
theorem TB {M:Mem} {k s:Nat} {c:A8} (hc:c.flat) {t:Nat} {c':A8} (h:a7 ((k,s,c)::M) k t=some c'):t=0/\c'=c:=by
 cases t with
 | zero=>rw[P5]at h;exact ⟨rfl,(Option.some.inj h).symm⟩
 | succ i =>
  simp only[a7,b7,Nat.beq_refl,cond_true]at h;cases c with
  | mx rows =>
   simp only at h;split at h
   ·rename_i z es hr
    exact (hc i (z,es) hr).elim
   ·cases h
  | hx a v rows=>exact hc.elim
  | vw w rows=>exact hc.elim
  | _=>simp at h
theorem AfL {σ σ':E0} {k k':Nat} {rows:List (Option (Nat × List (List AV)))} (h:A8.flat (.mx rows)):B6 σ k 0 rows=B6 σ' k' 0 rows:=by
 apply List.ext_getElem?;intro j;rw[E2,E2];cases hr:rows[j]? with
 | none=>rfl
 | some r=>cases r with
  | none=>rfl
  | some x=>exact (h j x hr).elim
theorem RX.gy (h:RX σ tm M st) {s q:Nat} (hm:GK s M=false) (ht:HH s tm=false) (c:A8) (hf:c.flat) (hc:HG s c=false) (hl:c.km=true->EQ q=true) :
  RX (CX σ s λ_=>(q,st.own.e8 q)) tm ((s,q,c)::M) ⟨st.tm,st.own.put q ((st.own q).new (c.c7 σ s))⟩:=by
 have Lu : ∀ j t c',a7 M j t=some c'->((st.own.put q ((st.own q).new (c.c7 σ s))) (σ j t).1).c7 (σ j t).2=(st.own (σ j t).1).c7 (σ j t).2:=by
  intro j t c' e;by_cases hs:(σ j t).1=q
  ·have ho:=h.sat.old _ _ _ e
   rw[hs]at ho ⊢;simp only[AH.g7,CB.new];rw[if_neg (by omega)]
  ·rw[AH.di _ _ _ _ hs]
 have Bk : ∀ s',(st.own s').e8<=((st.own.put q ((st.own q).new (c.c7 σ s))) s').e8:=by
  intro s';by_cases hs:s'=q
  ·subst hs;simp only[AH.g7,CB.new];omega
  ·rw[AH.di _ _ _ _ hs];exact Nat.le_refl _
 have k8 : ∀ j t c',j≠s->a7 ((s,q,c)::M) j t=some c'->a7 M j t=some c':=λ j t c' hj e=>by rwa [J5 hj]at e
 have Cn : ∀ j t c',a7 M j t=some c'->HG s c'=false/\j≠s:=by
  intro j t c' e;obtain ⟨s1,c0,g1,g2,g3⟩:=GF e;obtain ⟨g4,g5⟩:=RQ hm _ _ _ g1;refine ⟨?_,g4⟩;cases t with
  | zero=>rw[g2 rfl];exact g5
  | succ i=>obtain ⟨rows,z,es,_,_,rfl⟩:=g3 i rfl;rfl
 refine ⟨λ j => ?_,⟨?_,?_,?_,?_,?_⟩⟩
 ·rw[ZX (TI ht j)];exact h.tm j
 ·intro j s' c' e
  simp only[b7]at e;cases hb:Nat.beq j s<;>simp only[hb,cond_true,cond_false]at e
  ·rw[CH _ (E7.1 hb)];exact h.sat.site _ _ _ e
  ·simp only[Option.some.injEq,Prod.mk.injEq]at e
   obtain ⟨rfl,rfl⟩:=e;rw[BQ.1 hb,BR]
 ·intro j t c' e
  by_cases hj:j=s
  ·subst hj
   obtain ⟨rfl,rfl⟩:=TB hf e;have hb:c'.c7 (CX σ j λ_=>(q,st.own.e8 q)) j=c'.c7 σ j:=by
    cases c' with
    | bx cs=>simp only[HG]at hc;simp only[A8.c7,TN hc]
    | rw z es=>rfl
    | bs z es=>simp only[HG]at hc;simp only[A8.c7,hH hc]
    | mx rows=>exact congrArg (DR.mk 1) (AfL hf)
    | hx a v rows=>exact hf.elim
    | vw w rows=>exact hf.elim
   rw[BR,hb];simp [AH.g7,CB.new,AH.e8]
  ·have e':=k8 j t c' hj e
   rw[CH _ hj,XA (Cn j t c' e').1 hj];exact (Lu j t c' e').trans (h.sat.c7 _ _ _ e')
 ·intro j t c' e
  by_cases hj:j=s
  ·subst hj
   rw[BR];simp [AH.g7,CB.new,AH.e8]
  ·have e':=k8 j t c' hj e
   rw[CH _ hj];exact Nat.lt_of_lt_of_le (h.sat.old _ _ _ e') (Bk _)
 ·have my : ∀ j t c',a7 M j t=some c'->σ j t=(q,st.own.e8 q)->False:=by
   intro j t c' e hh;have h2:=h.sat.old _ _ _ e;rw[hh]at h2;exact absurd h2 (Nat.lt_irrefl _)
  intro j t j' t' c1 c2 e1 e2 hj;by_cases h1:j=s<;>by_cases h2:j'=s
  ·subst h1;subst h2
   exact ⟨rfl,(TB hf e1).1.trans (TB hf e2).1.symm⟩
  ·subst h1
   rw[BR,CH _ h2]at hj;exact (my _ _ _ (k8 _ _ _ h2 e2) hj.symm).elim
  ·subst h2
   rw[BR,CH _ h1]at hj;exact (my _ _ _ (k8 _ _ _ h1 e1) hj).elim
  ·rw[CH _ h1,CH _ h2]at hj
   exact h.sat.inj _ _ _ _ _ _ (k8 _ _ _ h1 e1) (k8 _ _ _ h2 e2) hj
 ·intro j t c' e hw
  by_cases hj:j=s
  ·subst hj
   obtain ⟨rfl,rfl⟩:=TB hf e;rw[BR];exact hl hw
  ·rw[CH _ hj];exact h.sat.low _ _ _ (k8 j t c' hj e) hw
theorem OE {k j:Nat} {x:Nat × A8} : ∀ {M:Mem},b7 (m9 k M) j=some x->j≠k/\b7 M j=some x
 | [],e=>by cases e
 | (i,s,c)::r,e=>by
  simp only[m9]at e;cases hb:Nat.beq k i<;>simp only[hb,cond_true,cond_false]at e
  ·simp only[b7]at e ⊢
   cases hj:Nat.beq j i<;>simp only[hj,cond_true,cond_false]at e ⊢
   ·exact OE e
   ·exact ⟨λ e'=>E7.1 hb (e'.symm.trans (BQ.1 hj)),e⟩
  ·obtain ⟨h1,h2⟩:=OE e
   refine ⟨h1,?_⟩;simp only[b7];rw[E7.2 (λ e'=>h1 (e'.trans (BQ.1 hb).symm))];exact h2
theorem RN {own:AH} {p:Nat × Nat} {x:Option DR} {q:Nat × Nat} (h:q≠p):((own.put p.1 ((own p.1).m7 p.2 x)) q.1).c7 q.2=(own q.1).c7 q.2:=by
 by_cases hs:q.1=p.1
 ·rw[hs,AH.g7]
  simp only[CB.m7];rw[if_neg (λ e=>h (Prod.ext hs e))]
 ·rw[AH.di _ _ _ _ hs]
theorem ZE {own:AH} {p:Nat × Nat} {x:Option DR}:((own.put p.1 ((own p.1).m7 p.2 x)) p.1).c7 p.2=x:=by simp [AH.g7,CB.m7]
theorem VQ {own:AH} {p:Nat × Nat} {x:Option DR} (s:Nat):((own.put p.1 ((own p.1).m7 p.2 x)) s).e8=(own s).e8:=by
 by_cases hs:s=p.1
 ·subst hs;rw[AH.g7];rfl
 ·rw[AH.di _ _ _ _ hs]
theorem RX.Nr (h:RX σ tm M st) {k s:Nat} {c:A8} (e:b7 M k=some (s,c)) (hf:c.flat) (c':A8) (ni:c'.flat) (hir:c'.km=true->c.km=true) :
  RX σ tm ((k,s,c')::M) ⟨st.tm,st.own.put s ((st.own s).m7 (σ k 0).2 (some (c'.c7 σ k)))⟩:=by
 have hs:=h.sat.site _ _ _ e;subst hs;have e0:=D6 e;have hg : ∀ j t c1,a7 ((k,(σ k 0).1,c')::M) j t=some c1->(j=k/\t=0/\c1=c')\/(j≠k/\a7 M j t=some c1):=by
  intro j t c1 e1;by_cases hj:j=k
  ·subst hj
   obtain ⟨rfl,rfl⟩:=TB ni e1;exact Or.inl ⟨rfl,rfl,rfl⟩
  ·rw[J5 hj]at e1
   exact Or.inr ⟨hj,e1⟩
 have qp : ∀ j t c1,a7 ((k,(σ k 0).1,c')::M) j t=some c1 -> ∃ c2,a7 M j t=some c2:=by
  intro j t c1 e1;rcases hg j t c1 e1 with ⟨rfl,rfl,rfl⟩|⟨_,h2⟩
  ·exact ⟨c,e0⟩
  ·exact ⟨c1,h2⟩
 refine ⟨h.tm,⟨?_,?_,?_,?_,?_⟩⟩
 ·intro j s' c1 e1
  simp only[b7]at e1;cases hb:Nat.beq j k<;>simp only[hb,cond_true,cond_false]at e1
  ·exact h.sat.site _ _ _ e1
  ·simp only[Option.some.injEq,Prod.mk.injEq]at e1
   rw[BQ.1 hb];exact e1.1
 ·intro j t c1 e1
  rcases hg j t c1 e1 with ⟨rfl,rfl,rfl⟩|⟨h1,h2⟩
  ·exact ZE
  ·refine (RN (λ he => ?_)).trans (h.sat.c7 _ _ _ h2)
   exact h1 (h.sat.inj _ _ _ _ _ _ h2 e0 he).1
 ·intro j t c1 e1
  obtain ⟨c2,e2⟩:=qp _ _ _ e1;show (σ j t).2<((st.own.put (σ k 0).1 ((st.own (σ k 0).1).m7 (σ k 0).2 (some (c'.c7 σ k)))) (σ j t).1).e8;rw[VQ];exact h.sat.old _ _ _ e2
 ·intro j t j' t' c1 c2 e1 e2 hj
  obtain ⟨_,Ej⟩:=qp _ _ _ e1;obtain ⟨_,Ao⟩:=qp _ _ _ e2;exact h.sat.inj _ _ _ _ _ _ Ej Ao hj
 ·intro j t c1 e1 hw
  rcases hg j t c1 e1 with ⟨rfl,rfl,rfl⟩|⟨_,h2⟩
  ·exact h.sat.low _ _ _ e0 (hir hw)
  ·exact h.sat.low _ _ _ h2 hw
theorem YS {k t:Nat} {c:A8} (h:a7 M k (t+1)=some c):c.km=true:=by
 obtain ⟨_,_,_,_,g3⟩:=GF h;obtain ⟨_,_,_,_,_,rfl⟩:=g3 t rfl;rfl
theorem LJ {k j t:Nat} {c:A8} (h:a7 (m9 k M) j t=some c):j≠k/\a7 M j t=some c:=by
 obtain ⟨s,c0,g1,_⟩:=GF h;obtain ⟨h1,h2⟩:=OE g1;refine ⟨h1,?_⟩;unfold a7 at h ⊢;rw[g1]at h;rw[h2];exact h
theorem RX.kill (h:RX σ tm M st) {k s:Nat} {c:A8} (e:b7 M k=some (s,c)) :
  RX σ tm (m9 k M) ⟨st.tm,st.own.put s ((st.own s).m7 (σ k 0).2 none)⟩:=by
 have hs:=h.sat.site _ _ _ e;subst hs;have e0:=D6 e;refine ⟨h.tm,⟨?_,?_,?_,?_,?_⟩⟩
 ·intro j s' c1 e1
  exact h.sat.site _ _ _ (OE e1).2
 ·intro j t c1 e1
  obtain ⟨hj,e1⟩:=LJ e1;refine (RN (λ he => ?_)).trans (h.sat.c7 _ _ _ e1);exact hj (h.sat.inj _ _ _ _ _ _ e1 e0 he).1
 ·intro j t c1 e1
  obtain ⟨hj,e1⟩:=LJ e1;show (σ j t).2<((st.own.put (σ k 0).1 ((st.own (σ k 0).1).m7 (σ k 0).2 none)) (σ j t).1).e8;rw[VQ];exact h.sat.old _ _ _ e1
 ·intro j t j' t' c1 c2 e1 e2 hj
  exact h.sat.inj _ _ _ _ _ _ (LJ e1).2 (LJ e2).2 hj
 ·intro j t c1 e1 hw
  exact h.sat.low _ _ _ (LJ e1).2 hw
theorem RX.Nn (h:RX σ tm M st) {k s i z:Nat} {rows:List (Option (Nat × List (List AV)))} {es es':List (List AV)} (e:b7 M k=some (s,.mx rows)) (hr:rows[i]? = some (some (z,es))) (hl:es'.length=es.length) :
  RX σ tm ((k,s,.mx (rows.set i (some (z,es'))))::M) ⟨st.tm,st.own.put (σ k (i+1)).1 ((st.own (σ k (i+1)).1).m7 (σ k (i+1)).2 (some ⟨z,es'⟩))⟩:=by
 have e1:a7 M k (i+1)=some (.rw z es):=by simp [a7,e,hr]
 have hi:i<rows.length:=(zS hr).1;have jk:B6 σ k 0 (rows.set i (some (z,es')))=B6 σ k 0 rows:=by
  apply List.ext_getElem?;intro j;rw[E2,E2];by_cases hj:i=j
  ·subst hj;rw[List.getElem?_set_self hi,hr];simp [hl]
  ·rw[List.getElem?_set_ne hj]
 have hg : ∀ j t c1,a7 ((k,s,.mx (rows.set i (some (z,es'))))::M) j t=some c1->(j=k/\t=i+1/\c1 = .rw z es')\/(¬ (j=k/\t=i+1) /\ ∃ c2,a7 M j t=some c2/\c2.c7 σ j=c1.c7 σ j):=by
  intro j t c1 g;by_cases hj:j=k
  ·subst hj
   cases t with
   | zero =>
    rw[P5]at g;obtain rfl:=Option.some.inj g;exact Or.inr ⟨by omega,_,D6 e,by simp only[A8.c7,jk]⟩
   | succ t =>
    simp only[a7,b7,Nat.beq_refl,cond_true]at g;by_cases om:i=t
    ·subst om
     rw[List.getElem?_set_self hi]at g;exact Or.inl ⟨rfl,rfl,(Option.some.inj g).symm⟩
    ·rw[List.getElem?_set_ne om]at g
     refine Or.inr ⟨by omega,c1,?_,rfl⟩;simp only[a7,e];exact g
  ·rw[J5 hj]at g
   exact Or.inr ⟨by omega,c1,g,rfl⟩
 have qp : ∀ j t c1,a7 ((k,s,.mx (rows.set i (some (z,es'))))::M) j t=some c1 -> ∃ c2,a7 M j t=some c2:=by
  intro j t c1 g;rcases hg j t c1 g with ⟨rfl,rfl,rfl⟩|⟨_,c2,h2,_⟩
  ·exact ⟨_,e1⟩
  ·exact ⟨c2,h2⟩
 refine ⟨h.tm,⟨?_,?_,?_,?_,?_⟩⟩
 ·intro j s' c1 g
  simp only[b7]at g;cases hb:Nat.beq j k<;>simp only[hb,cond_true,cond_false]at g
  ·exact h.sat.site _ _ _ g
  ·simp only[Option.some.injEq,Prod.mk.injEq]at g
   rw[BQ.1 hb,<-g.1];exact h.sat.site _ _ _ e
 ·intro j t c1 g
  rcases hg j t c1 g with ⟨rfl,rfl,rfl⟩|⟨h1,c2,h2,h3⟩
  ·exact ZE
  ·rw[<-h3]
   refine (RN (λ he => ?_)).trans (h.sat.c7 _ _ _ h2);exact h1 (h.sat.inj _ _ _ _ _ _ h2 e1 he)
 ·intro j t c1 g
  obtain ⟨c2,e2⟩:=qp _ _ _ g;show (σ j t).2<((st.own.put (σ k (i+1)).1 ((st.own (σ k (i+1)).1).m7 (σ k (i+1)).2 (some ⟨z,es'⟩))) (σ j t).1).e8;rw[VQ];exact h.sat.old _ _ _ e2
 ·intro j t j' t' c1 c2 g1 g2 hj
  obtain ⟨_,Ej⟩:=qp _ _ _ g1;obtain ⟨_,Ao⟩:=qp _ _ _ g2;exact h.sat.inj _ _ _ _ _ _ Ej Ao hj
 ·intro j t c1 g hw
  obtain ⟨c2,e2⟩:=qp _ _ _ g;cases t with
  | zero =>
   by_cases hj:j=k
   ·subst hj;exact h.sat.low _ _ _ (D6 e) rfl
   ·rw[J5 hj]at g;exact h.sat.low _ _ _ g hw
  | succ t=>exact h.sat.low _ _ _ e2 (YS e2)
section
variable {k:Nat} {f:Nat->Nat × Nat}
theorem hJ {v:AV} (hf:f 0=σ k 0) (h:OX k v=false):A7 (CX σ k f) v=A7 σ v:=by
 cases v with
 | row j t z o n =>
  simp only[OX]at h;cases hb:Nat.beq j k
  ·simp only[A7,CH f (E7.1 hb)]
  ·obtain rfl:=BQ.1 hb
   simp only[hb,cond_true]at h;cases t with
   | zero=>simp only[A7,BR,hf]
   | succ t=>cases h
 | ptr j t a b =>
  simp only[OX]at h;cases hb:Nat.beq j k
  ·simp only[A7,CH f (E7.1 hb)]
  ·obtain rfl:=BQ.1 hb
   simp only[hb,cond_true]at h;cases t with
   | zero=>simp only[A7,BR,hf]
   | succ t=>cases h
 | _=>rfl
theorem V0 (hf:f 0=σ k 0) : ∀ {cs:List AV},N6 k cs=false->cs.map (A7 (CX σ k f))=cs.map (A7 σ)
 | [],_=>rfl
 | c::r,h=>by
  simp only[N6]at h;cases h1:OX k c<;>simp only[h1,cond_true,cond_false]at h
  ·rw[List.map_cons,List.map_cons,hJ hf h1,V0 hf h]
  ·cases h
theorem vK (hf:f 0=σ k 0) : ∀ {es:List (List AV)},SK k es=false->(es.map λ cs=>cs.map (A7 (CX σ k f)))=es.map λ cs=>cs.map (A7 σ)
 | [],_=>rfl
 | c::r,h=>by
  simp only[SK]at h;cases h1:N6 k c<;>simp only[h1,cond_true,cond_false]at h
  ·rw[List.map_cons,List.map_cons,V0 hf h1,vK hf h]
  ·cases h
theorem V2 {v:AV} (hf:f 0=σ k 0) (h:QX k v=false):BJ (CX σ k f) v=BJ σ v:=by
 cases v with
 | agg cs=>simp only[QX]at h;simp only[BJ,V0 hf h]
 | fn p f g cs=>simp only[QX]at h;simp only[BJ,V0 hf h]
 | row a b c d e=>exact hJ (v := .row a b c d e) hf h
 | ptr a b c d=>exact hJ (v := .ptr a b c d) hf h
 | _=>rfl
theorem vL (hf:f 0=σ k 0) : ∀ {cs:List AV},SJ k cs=false->cs.map (BJ (CX σ k f))=cs.map (BJ σ)
 | [],_=>rfl
 | c::r,h=>by
  simp only[SJ]at h;cases h1:QX k c<;>simp only[h1,cond_true,cond_false]at h
  ·rw[List.map_cons,List.map_cons,V2 hf h1,vL hf h]
  ·cases h
theorem vP {v:AV} (hf:f 0=σ k 0) (h:PT k v=false):BG (CX σ k f) v=BG σ v:=by
 cases v with
 | e6 cs=>simp only[PT]at h;simp only[BG,vL hf h]
 | agg cs=>exact V2 (v := .agg cs) hf h
 | fn p f g cs=>exact V2 (v := .fn p f g cs) hf h
 | row a b c d e=>exact V2 (v := .row a b c d e) hf h
 | ptr a b c d=>exact V2 (v := .ptr a b c d) hf h
 | _=>rfl
theorem aZ : ∀ {tm:Tm},IY k tm=false -> ∀ j,PT k (tg tm j)=false
 | [],_,_=>rfl
 | (i,v)::r,h,j=>by
  simp only[IY]at h;cases h1:PT k v<;>simp only[h1,cond_true,cond_false]at h
  ·simp only[tg]
   cases Nat.beq j i
   ·exact aZ h j
   ·exact h1
  ·cases h
theorem aY : ∀ {M:Mem},HQ k M=false -> ∀ j s c,b7 M j=some (s,c)->N5 k c=false
 | [],_,_,_,_,e=>by cases e
 | (i,s0,c0)::r,h,j,s,c,e=>by
  simp only[HQ]at h;cases h1:N5 k c0<;>simp only[h1,cond_true,cond_false]at h
  ·simp only[b7]at e
   cases h2:Nat.beq j i<;>simp only[h2,cond_true,cond_false]at e
   ·exact aY h j s c e
   ·simp only[Option.some.injEq,Prod.mk.injEq]at e
    obtain ⟨_,rfl⟩:=e;exact h1
  ·cases h
theorem kN {c:A8} {j:Nat} (hf:f 0=σ k 0) (h:N5 k c=false) (hj:j≠k):c.c7 (CX σ k f) j=c.c7 σ j:=by
 cases c with
 | bx cs=>simp only[N5]at h;simp only[A8.c7,V0 hf h]
 | rw z es=>rfl
 | bs z es=>simp only[N5]at h;simp only[A8.c7,vK hf h]
 | mx rows=>simp only[A8.c7];rw[P7 rows 0 λ i _=>by rw[CH f hj]]
 | hx a v rows=>simp only[A8.c7];rw[P7 rows 0 λ i _=>by rw[CH f hj]]
 | vw w rows=>simp only[A8.c7];rw[P7 rows 0 λ i _=>by rw[CH f hj]]
end
theorem RX.Cu (h:RX σ tm M st) {k k2 s s2 i z:Nat} {rows:List (Option (Nat × List (List AV)))} {es:List (List AV)} {c0:A8} (e:b7 M k=some (s,c0)) (bh:c0 = .mx rows \/ ∃ v,c0 = .hx i v rows) (e2:b7 M k2=some (s2,.rw z es)) (hk:k≠k2) (az:IY k tm=false) (nh:HQ k M=false) (hi:i<rows.length) :
  RX (CX σ k λ t=>if t=i+1 then σ k2 0 else σ k t) tm ((k,s,.mx (rows.set i (some (z,es))))::m9 k2 M) ⟨st.tm,st.own.put s ((st.own s).m7 (σ k 0).2 (some ⟨1,(B6 σ k 0 rows).set i [.row (σ k2 0).1 (σ k2 0).2 z 0 es.length]⟩))⟩:=by
 have hs:=h.sat.site _ _ _ e;subst hs;have r0:=D6 e;have r2:=D6 e2;have f0:(λ t=>if t=i+1 then σ k2 0 else σ k t) 0=σ k 0:=by simp
 have jk:B6 (CX σ k λ t=>if t=i+1 then σ k2 0 else σ k t) k 0 (rows.set i (some (z,es)))=(B6 σ k 0 rows).set i [.row (σ k2 0).1 (σ k2 0).2 z 0 es.length]:=by
  apply List.ext_getElem?;intro j;rw[E2,BR];by_cases hj:i=j
  ·subst hj
   rw[List.getElem?_set_self hi,List.getElem?_set_self (by rw[E3];exact hi)];simp
  ·rw[List.getElem?_set_ne hj,List.getElem?_set_ne hj,E2]
   congr 1;funext r
   cases r with
   | none=>rfl
   | some x=>simp only[Nat.zero_add];rw[if_neg (by omega)]
 have hg : ∀ j t c,a7 ((k,(σ k 0).1,.mx (rows.set i (some (z,es))))::m9 k2 M) j t=some c ->
   (j=k/\t=0/\c = .mx (rows.set i (some (z,es))))\/(j=k/\t=i+1/\c = .rw z es)\/(j=k/\t≠0/\t≠i+1/\a7 M k t=some c)\/(j≠k/\j≠k2/\a7 M j t=some c):=by
  intro j t c g;by_cases hj:j=k
  ·subst hj
   cases t with
   | zero=>rw[P5]at g;exact Or.inl ⟨rfl,rfl,(Option.some.inj g).symm⟩
   | succ t =>
    simp only[a7,b7,Nat.beq_refl,cond_true]at g;by_cases om:i=t
    ·subst om
     rw[List.getElem?_set_self hi]at g;exact Or.inr (Or.inl ⟨rfl,rfl,(Option.some.inj g).symm⟩)
    ·rw[List.getElem?_set_ne om]at g
     refine Or.inr (Or.inr (Or.inl ⟨rfl,by omega,by omega,?_⟩));rcases bh with rfl|⟨v,rfl⟩
     ·simp only[a7,e]
      exact g
     ·simp only[a7,e]
      exact g
  ·rw[J5 hj]at g
   obtain ⟨g1,g2⟩:=LJ g;exact Or.inr (Or.inr (Or.inr ⟨hj,g1,g2⟩))
 have Kr : ∀ j t c,a7 M j t=some c->N5 k c=false:=by
  intro j t c g;obtain ⟨s1,c0,g1,g2,g3⟩:=GF g;cases t with
  | zero=>rw[g2 rfl];exact aY nh _ _ _ g1
  | succ t=>obtain ⟨_,_,_,_,_,rfl⟩:=g3 t rfl;rfl
 refine ⟨λ j => ?_,⟨?_,?_,?_,?_,?_⟩⟩
 ·rw[vP (f:=λ t=>if t=i+1 then σ k2 0 else σ k t) f0 (aZ az j)];exact h.tm j
 ·intro j s' c g
  simp only[b7]at g;cases hb:Nat.beq j k<;>simp only[hb,cond_true,cond_false]at g
  ·rw[CH _ (E7.1 hb)];exact h.sat.site _ _ _ (OE g).2
  ·simp only[Option.some.injEq,Prod.mk.injEq]at g
   rw[BQ.1 hb,BR,<-g.1];simp
 ·intro j t c g
  rcases hg j t c g with ⟨rfl,rfl,rfl⟩|⟨rfl,rfl,rfl⟩|⟨rfl,h0,h1,g2⟩|⟨h0,h1,g2⟩
  ·rw[BR]
   simp only[A8.c7,jk];exact ZE
  ·rw[BR]
   simp only[if_true];exact (RN (λ he=>hk (h.sat.inj _ _ _ _ _ _ r2 r0 he).1.symm)).trans (h.sat.c7 _ _ _ r2)
  ·rw[BR]
   simp only[h1,if_false];have hb:c.c7 (CX σ j λ t=>if t=i+1 then σ k2 0 else σ j t) j=c.c7 σ j:=by
    obtain ⟨_,_,_,_,g3⟩:=GF g2;obtain ⟨t',rfl⟩ : ∃ t',t=t'+1:=⟨t-1,by omega⟩;obtain ⟨_,_,_,_,_,rfl⟩:=g3 t' rfl;rfl
   rw[hb];exact (RN (λ he=>h0 (h.sat.inj _ _ _ _ _ _ g2 r0 he).2)).trans (h.sat.c7 _ _ _ g2)
  ·rw[CH _ h0,kN (f:=λ t=>if t=i+1 then σ k2 0 else σ k t) f0 (Kr _ _ _ g2) h0]
   exact (RN (λ he=>h0 (h.sat.inj _ _ _ _ _ _ g2 r0 he).1)).trans (h.sat.c7 _ _ _ g2)
 ·intro j t c g
  rw[VQ];rcases hg j t c g with ⟨rfl,rfl,rfl⟩|⟨rfl,rfl,rfl⟩|⟨rfl,h0,h1,g2⟩|⟨h0,h1,g2⟩
  ·rw[BR];simpa using h.sat.old _ _ _ r0
  ·rw[BR];simpa using h.sat.old _ _ _ r2
  ·rw[BR];simp only[h1,if_false];exact h.sat.old _ _ _ g2
  ·rw[CH _ h0];exact h.sat.old _ _ _ g2
 ·-- each name is that of Dy in the old memory
  have hold : ∀ j t c,a7 ((k,(σ k 0).1,.mx (rows.set i (some (z,es))))::m9 k2 M) j t=some c -> ∃ j0 t0 c0,a7 M j0 t0=some c0/\(CX σ k λ t=>if t=i+1 then σ k2 0 else σ k t) j t=σ j0 t0/\((j0=k2/\t0=0/\j=k/\t=i+1)\/(j0=j/\t0=t/\j≠k2)):=by
   intro j t c g;rcases hg j t c g with ⟨rfl,rfl,rfl⟩|⟨rfl,rfl,rfl⟩|⟨rfl,h0,h1,g2⟩|⟨h0,h1,g2⟩
   ·exact ⟨_,_,_,r0,by rw[BR];simp,Or.inr ⟨rfl,rfl,hk⟩⟩
   ·exact ⟨_,_,_,r2,by rw[BR];simp,Or.inl ⟨rfl,rfl,rfl,rfl⟩⟩
   ·exact ⟨_,_,_,g2,by rw[BR];simp [h1],Or.inr ⟨rfl,rfl,hk⟩⟩
   ·exact ⟨_,_,_,g2,by rw[CH _ h0],Or.inr ⟨rfl,rfl,h1⟩⟩
  intro j t j' t' c c' g g' hj;obtain ⟨j0,t0,c0,a1,a2,a3⟩:=hold j t c g;obtain ⟨j1,t1,c1,b1,b2,b3⟩:=hold j' t' c' g';rw[a2,b2]at hj;obtain ⟨q1,q2⟩:=h.sat.inj _ _ _ _ _ _ a1 b1 hj;rcases a3 with ⟨x1,x2,x3,x4⟩|⟨x1,x2,x3⟩<;>rcases b3 with ⟨y1,y2,y3,y4⟩|⟨y1,y2,y3⟩
  ·exact ⟨x3.trans y3.symm,x4.trans y4.symm⟩
  ·exact absurd (y1.symm.trans (q1.symm.trans x1)) y3
  ·exact absurd (x1.symm.trans (q1.trans y1)) x3
  ·exact ⟨x1.symm.trans (q1.trans y1),x2.symm.trans (q2.trans y2)⟩
 ·intro j t c g hw
  rcases hg j t c g with ⟨rfl,rfl,rfl⟩|⟨rfl,rfl,rfl⟩|⟨rfl,h0,h1,g2⟩|⟨h0,h1,g2⟩
  ·rw[BR];simpa using h.sat.low _ _ _ r0 (by rcases bh with rfl|⟨v,rfl⟩<;>rfl)
  ·rw[BR];simpa using h.sat.low _ _ _ r2 rfl
  ·rw[BR];simp only[h1,if_false];exact h.sat.low _ _ _ g2 hw
  ·rw[CH _ h0];exact h.sat.low _ _ _ g2 hw
theorem RE {own:AH} {q t:Nat} {b:DR} {p:Nat × Nat} (h:p≠(q,t)) (ho:p.2<(own p.1).e8):((own.put q (((own q).m7 t none).new b)) p.1).c7 p.2=(own p.1).c7 p.2:=by
 by_cases hs:p.1=q
 ·rw[hs]at ho ⊢
  rw[AH.g7];simp only[CB.new,CB.m7];have h1 : ¬ p.2=(own q).e8:=by omega
  have h2 : ¬ p.2=t:=λ e=>h (Prod.ext hs e)
  simp only[h1,h2,if_false]
 ·rw[AH.di _ _ _ _ hs]
theorem RF {own:AH} {q t:Nat} {b:DR} (s:Nat):(own s).e8<=((own.put q (((own q).m7 t none).new b)) s).e8:=by
 by_cases hs:s=q
 ·subst hs;rw[AH.g7];simp only[CB.new,CB.m7];omega
 ·rw[AH.di _ _ _ _ hs];exact Nat.le_refl _
theorem RX.Iy (h:RX σ tm M st) {s key sk i z:Nat} {rows:List (Option (Nat × List (List AV)))} {es es':List (List AV)} (e:b7 M key=some (sk,.mx rows)) (hr:rows[i]? = some (some (z,es))) (hm:GK s M=false) (ht:HH s tm=false) :
  RX (CX σ s λ_=>((σ key (i+1)).1,st.own.e8 (σ key (i+1)).1)) tm ((s,(σ key (i+1)).1,.rw z es')::(key,sk,.hx i (.row (σ key (i+1)).1 (σ key (i+1)).2 z 0 es.length) (rows.set i none))::m9 key M)
   ⟨st.tm,st.own.put (σ key (i+1)).1 (((st.own (σ key (i+1)).1).m7 (σ key (i+1)).2 none).new ⟨z,es'⟩)⟩:=by
 have r0:=D6 e;have e1:a7 M key (i+1)=some (.rw z es):=by simp [a7,e,hr]
 have hi:i<rows.length:=(zS hr).1;have Bz:key≠s:=(RQ hm _ _ _ e).1;have jk:(B6 (CX σ s λ_=>((σ key (i+1)).1,st.own.e8 (σ key (i+1)).1)) key 0 (rows.set i none)).set i [.row (σ key (i+1)).1 (σ key (i+1)).2 z 0 es.length]=B6 σ key 0 rows:=by
  apply List.ext_getElem?;intro j;by_cases hj:i=j
  ·subst hj
   rw[List.getElem?_set_self (by rw[E3,List.length_set];exact hi),E2,hr];simp
  ·rw[List.getElem?_set_ne hj,E2,E2,List.getElem?_set_ne hj,CH _ Bz]
 have Cn : ∀ j t c',a7 M j t=some c'->HG s c'=false/\j≠s:=by
  intro j t c' g;obtain ⟨s1,c0,g1,g2,g3⟩:=GF g;obtain ⟨g4,g5⟩:=RQ hm _ _ _ g1;refine ⟨?_,g4⟩;cases t with
  | zero=>rw[g2 rfl];exact g5
  | succ i=>obtain ⟨rows,z,es,_,_,rfl⟩:=g3 i rfl;rfl
 have hg : ∀ j t c,a7 ((s,(σ key (i+1)).1,.rw z es')::(key,sk,.hx i (.row (σ key (i+1)).1 (σ key (i+1)).2 z 0 es.length) (rows.set i none))::m9 key M) j t=some c ->
   (j=s/\t=0/\c = .rw z es')\/(j=key/\t=0/\c = .hx i (.row (σ key (i+1)).1 (σ key (i+1)).2 z 0 es.length) (rows.set i none))\/(j≠s /\ ¬ (j=key/\t=0) /\ ¬ (j=key/\t=i+1)/\(j=key -> ∃ z es,c = .rw z es)/\a7 M j t=some c):=by
  intro j t c g;by_cases hj:j=s
  ·subst hj
   obtain ⟨rfl,rfl⟩:=TB (c := .rw z es') trivial g;exact Or.inl ⟨rfl,rfl,rfl⟩
  ·rw[J5 hj]at g
   by_cases hk:j=key
   ·subst hk
    cases t with
    | zero=>rw[P5]at g;exact Or.inr (Or.inl ⟨rfl,rfl,(Option.some.inj g).symm⟩)
    | succ t =>
     simp only[a7,b7,Nat.beq_refl,cond_true]at g;by_cases om:i=t
     ·subst om
      rw[List.getElem?_set_self hi]at g;cases g
     ·rw[List.getElem?_set_ne om]at g
      refine Or.inr (Or.inr ⟨hj,by omega,by omega,λ_ => ?_,?_⟩)
      ·split at g
       ·exact ⟨_,_,(Option.some.inj g).symm⟩
       ·cases g
      ·simp only[a7,e]
       exact g
   ·rw[J5 hk]at g
    obtain ⟨g1,g2⟩:=LJ g;exact Or.inr (Or.inr ⟨hj,by omega,by omega,λ h=>absurd h hk,g2⟩)
 refine ⟨λ j => ?_,⟨?_,?_,?_,?_,?_⟩⟩
 ·rw[ZX (TI ht j)];exact h.tm j
 ·intro j s1 c g
  simp only[b7]at g;cases hb:Nat.beq j s<;>simp only[hb,cond_true,cond_false]at g
  ·rw[CH _ (E7.1 hb)]
   cases o3:Nat.beq j key<;>simp only[o3,cond_true,cond_false]at g
   ·exact h.sat.site _ _ _ (OE g).2
   ·simp only[Option.some.injEq,Prod.mk.injEq]at g
    rw[BQ.1 o3,<-g.1];exact h.sat.site _ _ _ e
  ·simp only[Option.some.injEq,Prod.mk.injEq]at g
   rw[BQ.1 hb,BR,<-g.1]
 ·intro j t c g
  rcases hg j t c g with ⟨rfl,rfl,rfl⟩|⟨rfl,rfl,rfl⟩|⟨h0,h1,h2,h3,g2⟩
  ·rw[BR]
   simp [AH.g7,CB.new,AH.e8,CB.m7,A8.c7]
  ·rw[CH _ Bz]
   simp only[A8.c7,jk];exact (RE (λ he=>absurd (h.sat.inj _ _ _ _ _ _ r0 e1 he).2 (by omega)) (h.sat.old _ _ _ r0)).trans (h.sat.c7 _ _ _ r0)
  ·rw[CH _ h0,XA (Cn _ _ _ g2).1 h0]
   exact (RE (λ he=>h2 (h.sat.inj _ _ _ _ _ _ g2 e1 he)) (h.sat.old _ _ _ g2)).trans (h.sat.c7 _ _ _ g2)
 ·intro j t c g
  rcases hg j t c g with ⟨rfl,rfl,rfl⟩|⟨rfl,rfl,rfl⟩|⟨h0,h1,h2,h3,g2⟩
  ·rw[BR]
   simp [AH.g7,CB.new,AH.e8,CB.m7]
  ·rw[CH _ Bz]
   exact Nat.lt_of_lt_of_le (h.sat.old _ _ _ r0) (RF _)
  ·rw[CH _ h0]
   exact Nat.lt_of_lt_of_le (h.sat.old _ _ _ g2) (RF _)
 ·have hold : ∀ j t c,a7 ((s,(σ key (i+1)).1,.rw z es')::(key,sk,.hx i (.row (σ key (i+1)).1 (σ key (i+1)).2 z 0 es.length) (rows.set i none))::m9 key M) j t=some c->(j=s/\t=0)\/(j≠s /\ ∃ c0,a7 M j t=some c0):=by
   intro j t c g;rcases hg j t c g with ⟨rfl,rfl,rfl⟩|⟨rfl,rfl,rfl⟩|⟨h0,h1,h2,h3,g2⟩
   ·exact Or.inl ⟨rfl,rfl⟩
   ·exact Or.inr ⟨Bz,_,r0⟩
   ·exact Or.inr ⟨h0,_,g2⟩
  have nw : ∀ j0 t0 c0,a7 M j0 t0=some c0->((σ key (i+1)).1,st.own.e8 (σ key (i+1)).1)≠σ j0 t0:=by
   intro j0 t0 c0 g he;have:=h.sat.old _ _ _ g
   rw[<-he]at this;exact absurd this (Nat.lt_irrefl _)
  intro j t j' t' c c' g g' hj;rcases hold j t c g with ⟨rfl,rfl⟩|⟨a1,c1,a2⟩<;>rcases hold j' t' c' g' with ⟨rfl,rfl⟩|⟨b1,c2,b2⟩
  ·exact ⟨rfl,rfl⟩
  ·rw[BR,CH _ b1]at hj;exact absurd hj (nw _ _ _ b2)
  ·rw[BR,CH _ a1]at hj;exact absurd hj.symm (nw _ _ _ a2)
  ·rw[CH _ a1,CH _ b1]at hj
   exact h.sat.inj _ _ _ _ _ _ a2 b2 hj
 ·intro j t c g hw
  rcases hg j t c g with ⟨rfl,rfl,rfl⟩|⟨rfl,rfl,rfl⟩|⟨h0,h1,h2,h3,g2⟩
  ·rw[BR];exact h.sat.low _ _ _ e1 rfl
  ·rw[CH _ Bz];exact h.sat.low _ _ _ r0 rfl
  ·rw[CH _ h0];exact h.sat.low _ _ _ g2 hw
theorem RX.view (h:RX σ tm M st) {k s:Nat} {c0:A8} {rows:List (Option (Nat × List (List AV)))} {w:List Nat} (e:b7 M k=some (s,c0)) (bh:c0 = .mx rows \/ ∃ w0,c0 = .vw w0 rows) :
  RX σ tm ((k,s,.vw w rows)::M) ⟨st.tm,st.own.put s ((st.own s).m7 (σ k 0).2 (some (A8.c7 σ k (.vw w rows))))⟩:=by
 have hs:=h.sat.site _ _ _ e;subst hs;have r0:=D6 e;have hg : ∀ j t c,a7 ((k,(σ k 0).1,.vw w rows)::M) j t=some c->(j=k/\t=0/\c = .vw w rows)\/(¬ (j=k/\t=0)/\a7 M j t=some c):=by
  intro j t c g;by_cases hj:j=k
  ·subst hj
   cases t with
   | zero=>rw[P5]at g;exact Or.inl ⟨rfl,rfl,(Option.some.inj g).symm⟩
   | succ t =>
    refine Or.inr ⟨by omega,?_⟩;simp only[a7,b7,Nat.beq_refl,cond_true]at g;rcases bh with rfl|⟨w0,rfl⟩
    ·simp only[a7,e]
     exact g
    ·simp only[a7,e]
     exact g
  ·rw[J5 hj]at g
   exact Or.inr ⟨by omega,g⟩
 have qp : ∀ j t c1,a7 ((k,(σ k 0).1,.vw w rows)::M) j t=some c1 -> ∃ c2,a7 M j t=some c2:=by
  intro j t c1 g;rcases hg j t c1 g with ⟨rfl,rfl,rfl⟩|⟨_,h2⟩
  ·exact ⟨_,r0⟩
  ·exact ⟨_,h2⟩
 refine ⟨h.tm,⟨?_,?_,?_,?_,?_⟩⟩
 ·intro j s' c1 g
  simp only[b7]at g;cases hb:Nat.beq j k<;>simp only[hb,cond_true,cond_false]at g
  ·exact h.sat.site _ _ _ g
  ·simp only[Option.some.injEq,Prod.mk.injEq]at g
   rw[BQ.1 hb];exact g.1
 ·intro j t c1 g
  rcases hg j t c1 g with ⟨rfl,rfl,rfl⟩|⟨h1,h2⟩
  ·exact ZE
  ·refine (RN (λ he => ?_)).trans (h.sat.c7 _ _ _ h2)
   exact h1 (h.sat.inj _ _ _ _ _ _ h2 r0 he)
 ·intro j t c1 g
  obtain ⟨c2,e2⟩:=qp _ _ _ g;show (σ j t).2<((st.own.put (σ k 0).1 ((st.own (σ k 0).1).m7 (σ k 0).2 _)) (σ j t).1).e8;rw[VQ];exact h.sat.old _ _ _ e2
 ·intro j t j' t' c1 c2 g1 g2 hj
  obtain ⟨_,Ej⟩:=qp _ _ _ g1;obtain ⟨_,Ao⟩:=qp _ _ _ g2;exact h.sat.inj _ _ _ _ _ _ Ej Ao hj
 ·intro j t c1 g hw
  rcases hg j t c1 g with ⟨rfl,rfl,rfl⟩|⟨_,h2⟩
  ·exact h.sat.low _ _ _ r0 (by rcases bh with rfl|⟨w0,rfl⟩<;>rfl)
  ·exact h.sat.low _ _ _ h2 hw
theorem RX.Cw (h:RX σ tm M st) {k s:Nat} {rows n8:List (Option (Nat × List (List AV)))} {w:List Nat} (e:b7 M k=some (s,.vw w rows)) (hl:n8.length=w.length)
  (hw : ∀ (i t:Nat),w[i]? = some t -> ∃ r,rows[t]? = some r/\n8[i]? = some r) (hi : ∀ (i i' t:Nat),w[i]? = some t->w[i']? = some t->i=i') (az:IY k tm=false) (nh:HQ k M=false) :
  ∃ σ',RX σ' tm ((k,s,.mx n8)::M) st:=by
 have hs:=h.sat.site _ _ _ e;subst hs;have r0:=D6 e;obtain ⟨f,hf⟩ : ∃ f:Nat->Nat × Nat,f=λ t=>match t with|0=>σ k 0|i+1=>match w[i]? with|some v=>σ k (v+1)|none=>σ k (i+1):=⟨_,rfl⟩
 have f0:f 0=σ k 0:=by rw[hf]
 have f1 : ∀ i v,w[i]? = some v->f (i+1)=σ k (v+1):=λ i v hv=>by rw[hf];simp only[hv]
 have Kr : ∀ j t c,a7 M j t=some c->N5 k c=false:=by
  intro j t c g;obtain ⟨s1,c0,g1,g2,g3⟩:=GF g;cases t with
  | zero=>rw[g2 rfl];exact aY nh _ _ _ g1
  | succ t=>obtain ⟨_,_,_,_,_,rfl⟩:=g3 t rfl;rfl
 have Ae : ∀ i,i<n8.length -> ∃ v r,w[i]? = some v/\rows[v]? = some r/\n8[i]? = some r:=λ i hi=>by
  obtain ⟨v,hv⟩ : ∃ v,w[i]? = some v:=⟨_,zE (by omega)⟩;obtain ⟨r,h1,h2⟩:=hw i v hv;exact ⟨v,r,hv,h1,h2⟩
 have jk:B6 (CX σ k f) k 0 n8=w.map λ t=>((B6 σ k 0 rows)[t]?).getD []:=by
  apply List.ext_getElem?;intro i;rw[E2,BR,List.getElem?_map];by_cases w5:i<n8.length
  ·obtain ⟨v,r,h1,h2,h3⟩:=Ae i w5
   rw[h3,h1,Option.map_some,Option.map_some,E2,h2,Option.map_some,Option.getD_some,Nat.zero_add,Nat.zero_add,f1 i v h1]
  ·rw[List.getElem?_eq_none (by omega),List.getElem?_eq_none (by omega)];rfl
 have hg : ∀ j t c,a7 ((k,(σ k 0).1,.mx n8)::M) j t=some c ->
   (j=k/\t=0/\c = .mx n8)\/(∃ i v,j=k/\t=i+1/\w[i]? = some v/\a7 M k (v+1)=some c)\/(j≠k/\a7 M j t=some c):=by
  intro j t c g;by_cases hj:j=k
  ·subst hj
   cases t with
   | zero=>rw[P5]at g;exact Or.inl ⟨rfl,rfl,(Option.some.inj g).symm⟩
   | succ t =>
    simp only[a7,b7,Nat.beq_refl,cond_true]at g;by_cases de:t<n8.length
    ·obtain ⟨v,r,h1,h2,h3⟩:=Ae t de
     refine Or.inr (Or.inl ⟨t,v,rfl,rfl,h1,?_⟩);rw[h3]at g;simp only[a7,e,h2];exact g
    ·rw[List.getElem?_eq_none (by omega)]at g;cases g
  ·rw[J5 hj]at g
   exact Or.inr (Or.inr ⟨hj,g⟩)
 have hcr : ∀ v c,a7 M k (v+1)=some c -> ∃ z es,c = .rw z es:=λ v c g=>by
  obtain ⟨_,_,_,_,g3⟩:=GF g;obtain ⟨_,z,es,_,_,rfl⟩:=g3 v rfl;exact ⟨z,es,rfl⟩
 refine ⟨CX σ k f,λ j => ?_,⟨?_,?_,?_,?_,?_⟩⟩
 ·rw[vP f0 (aZ az j)];exact h.tm j
 ·intro j s' c g
  simp only[b7]at g;cases hb:Nat.beq j k<;>simp only[hb,cond_true,cond_false]at g
  ·rw[CH _ (E7.1 hb)];exact h.sat.site _ _ _ g
  ·simp only[Option.some.injEq,Prod.mk.injEq]at g
   rw[BQ.1 hb,BR,<-g.1,f0]
 ·intro j t c g
  rcases hg j t c g with ⟨rfl,rfl,rfl⟩|⟨i,v,rfl,rfl,h1,g2⟩|⟨h0,g2⟩
  ·rw[BR,f0]
   have:=h.sat.c7 _ _ _ r0
   simp only[A8.c7,jk]at this ⊢;exact this
  ·rw[BR,f1 i v h1]
   obtain ⟨z,es,rfl⟩:=hcr v c g2;exact h.sat.c7 _ _ _ g2
  ·rw[CH _ h0,kN f0 (Kr _ _ _ g2) h0]
   exact h.sat.c7 _ _ _ g2
 ·intro j t c g
  rcases hg j t c g with ⟨rfl,rfl,rfl⟩|⟨i,v,rfl,rfl,h1,g2⟩|⟨h0,g2⟩
  ·rw[BR,f0];exact h.sat.old _ _ _ r0
  ·rw[BR,f1 i v h1];exact h.sat.old _ _ _ g2
  ·rw[CH _ h0];exact h.sat.old _ _ _ g2
 ·have hold : ∀ j t c,a7 ((k,(σ k 0).1,.mx n8)::M) j t=some c -> ∃ j0 t0 c0,a7 M j0 t0=some c0/\(CX σ k f) j t=σ j0 t0/\((j=k/\j0=k/\((t=0/\t0=0) \/ ∃ i v,t=i+1/\t0=v+1/\w[i]? = some v))\/(j≠k/\j0=j/\t0=t)):=by
   intro j t c g;rcases hg j t c g with ⟨rfl,rfl,rfl⟩|⟨i,v,rfl,rfl,h1,g2⟩|⟨h0,g2⟩
   ·exact ⟨_,_,_,r0,by rw[BR,f0],Or.inl ⟨rfl,rfl,Or.inl ⟨rfl,rfl⟩⟩⟩
   ·exact ⟨_,_,_,g2,by rw[BR,f1 i v h1],Or.inl ⟨rfl,rfl,Or.inr ⟨i,v,rfl,rfl,h1⟩⟩⟩
   ·exact ⟨_,_,_,g2,by rw[CH _ h0],Or.inr ⟨h0,rfl,rfl⟩⟩
  intro j t j' t' c c' g g' hj;obtain ⟨j0,t0,c0,a1,a2,a3⟩:=hold j t c g;obtain ⟨j1,t1,c1,b1,b2,b3⟩:=hold j' t' c' g';rw[a2,b2]at hj;obtain ⟨q1,q2⟩:=h.sat.inj _ _ _ _ _ _ a1 b1 hj;rcases a3 with ⟨x1,x2,x3⟩|⟨x1,x2,x3⟩<;>rcases b3 with ⟨y1,y2,y3⟩|⟨y1,y2,y3⟩
  ·refine ⟨x1.trans y1.symm,?_⟩
   rcases x3 with ⟨x4,x5⟩|⟨i,v,x4,x5,x6⟩<;>rcases y3 with ⟨y4,y5⟩|⟨i',v',y4,y5,y6⟩
   ·omega
   ·omega
   ·omega
   ·obtain rfl:v=v':=by omega
    have:=hi i i' v x6 y6
    omega
  ·exact absurd (y2.symm.trans (q1.symm.trans x2)) y1
  ·exact absurd (x2.symm.trans (q1.trans y2)) x1
  ·exact ⟨x2.symm.trans (q1.trans y2),x3.symm.trans (q2.trans y3)⟩
 ·intro j t c g hw
  rcases hg j t c g with ⟨rfl,rfl,rfl⟩|⟨i,v,rfl,rfl,h1,g2⟩|⟨h0,g2⟩
  ·rw[BR,f0];exact h.sat.low _ _ _ r0 rfl
  ·rw[BR,f1 i v h1];exact h.sat.low _ _ _ g2 (YS g2)
  ·rw[CH _ h0];exact h.sat.low _ _ _ g2 hw
theorem RX.Ja (h:RX σ tm M st) {s key s':Nat} {rows:List (Option (Nat × List (List AV)))} (e:b7 M key=some (s',.mx rows)) (hm:GK s M=false) (ht:HH s tm=false) :
  RX (CX σ s λ t=>match t with|0=>(s',st.own.e8 s')|i+1=>σ key (i+1)) tm ((s,s',.mx (rows++[none]))::m9 key M)
   ⟨st.tm,st.own.put s' (((st.own s').m7 (σ key 0).2 none).new ⟨1,B6 σ key 0 rows++[[.nil]]⟩)⟩:=by
 have hs:=h.sat.site _ _ _ e;subst hs;have r0:=D6 e;generalize hF:(λ t=>match t with|0=>((σ key 0).1,st.own.e8 (σ key 0).1)|i+1=>σ key (i+1):Nat->Nat × Nat)=F;have F0:F 0=((σ key 0).1,st.own.e8 (σ key 0).1):=by rw[<-hF]
 have F1 : ∀ i,F (i+1)=σ key (i+1):=by intro i;rw[<-hF]
 have jk:B6 (CX σ s F) s 0 (rows++[none])=B6 σ key 0 rows++[[.nil]]:=by
  apply List.ext_getElem?;intro j;rw[E2,BR];rcases Nat.lt_trichotomy j rows.length with hj|hj|hj
  ·rw[List.getElem?_append_left hj,List.getElem?_append_left (by rw[E3];exact hj),E2]
   congr 1;funext r
   cases r with
   | none=>rfl
   | some x=>simp only[Nat.zero_add];rw[F1]
  ·subst hj
   rw[List.getElem?_append_right (Nat.le_refl _),List.getElem?_append_right (by rw[E3];exact Nat.le_refl _),E3];simp
  ·rw[List.getElem?_eq_none (by simp;omega),List.getElem?_eq_none (by simp [E3];omega)];rfl
 have Cn : ∀ j t c',a7 M j t=some c'->HG s c'=false/\j≠s:=by
  intro j t c' g;obtain ⟨s1,c0,g1,g2,g3⟩:=GF g;obtain ⟨g4,g5⟩:=RQ hm _ _ _ g1;refine ⟨?_,g4⟩;cases t with
  | zero=>rw[g2 rfl];exact g5
  | succ i=>obtain ⟨rows,z,es,_,_,rfl⟩:=g3 i rfl;rfl
 have hg : ∀ j t c,a7 ((s,(σ key 0).1,.mx (rows++[none]))::m9 key M) j t=some c ->
   (j=s/\t=0/\c = .mx (rows++[none]))\/(j=s/\t≠0/\a7 M key t=some c)\/(j≠s/\j≠key/\a7 M j t=some c):=by
  intro j t c g;by_cases hj:j=s
  ·subst hj
   cases t with
   | zero=>rw[P5]at g;exact Or.inl ⟨rfl,rfl,(Option.some.inj g).symm⟩
   | succ t =>
    simp only[a7,b7,Nat.beq_refl,cond_true]at g;rcases Nat.lt_trichotomy t rows.length with oi|oi|oi
    ·rw[List.getElem?_append_left oi]at g
     refine Or.inr (Or.inl ⟨rfl,by omega,?_⟩);simp only[a7,e];exact g
    ·subst oi
     rw[List.getElem?_append_right (Nat.le_refl _),Nat.sub_self]at g;simp at g
    ·rw[List.getElem?_eq_none (by simp;omega)]at g;cases g
  ·rw[J5 hj]at g
   obtain ⟨g1,g2⟩:=LJ g;exact Or.inr (Or.inr ⟨hj,g1,g2⟩)
 refine ⟨λ j => ?_,⟨?_,?_,?_,?_,?_⟩⟩
 ·rw[ZX (TI ht j)];exact h.tm j
 ·intro j s1 c g
  simp only[b7]at g;cases hb:Nat.beq j s<;>simp only[hb,cond_true,cond_false]at g
  ·rw[CH _ (E7.1 hb)];exact h.sat.site _ _ _ (OE g).2
  ·simp only[Option.some.injEq,Prod.mk.injEq]at g
   rw[BQ.1 hb,BR,F0,<-g.1]
 ·intro j t c g
  rcases hg j t c g with ⟨rfl,rfl,rfl⟩|⟨rfl,h0,g2⟩|⟨h0,h1,g2⟩
  ·rw[BR,F0]
   simp only[A8.c7,jk];simp [AH.g7,CB.new,AH.e8,CB.m7]
  ·obtain ⟨t',rfl⟩ : ∃ t',t=t'+1:=⟨t-1,by omega⟩
   rw[BR,F1];have hb:c.c7 (CX σ j F) j=c.c7 σ key:=by
    obtain ⟨_,_,_,_,g3⟩:=GF g2;obtain ⟨_,_,_,_,_,rfl⟩:=g3 t' rfl;rfl
   rw[hb];exact (RE (λ he=>absurd (h.sat.inj _ _ _ _ _ _ g2 r0 he).2 (by omega)) (h.sat.old _ _ _ g2)).trans (h.sat.c7 _ _ _ g2)
  ·rw[CH _ h0,XA (Cn _ _ _ g2).1 h0]
   exact (RE (λ he=>h1 (h.sat.inj _ _ _ _ _ _ g2 r0 he).1) (h.sat.old _ _ _ g2)).trans (h.sat.c7 _ _ _ g2)
 ·intro j t c g
  rcases hg j t c g with ⟨rfl,rfl,rfl⟩|⟨rfl,h0,g2⟩|⟨h0,h1,g2⟩
  ·rw[BR,F0]
   simp [AH.g7,CB.new,AH.e8,CB.m7]
  ·obtain ⟨t',rfl⟩ : ∃ t',t=t'+1:=⟨t-1,by omega⟩
   rw[BR,F1];exact Nat.lt_of_lt_of_le (h.sat.old _ _ _ g2) (RF _)
  ·rw[CH _ h0]
   exact Nat.lt_of_lt_of_le (h.sat.old _ _ _ g2) (RF _)
 ·have hold : ∀ j t c,a7 ((s,(σ key 0).1,.mx (rows++[none]))::m9 key M) j t=some c->(j=s/\t=0) \/ ∃ j0 t0 c0,a7 M j0 t0=some c0/\CX σ s F j t=σ j0 t0/\((j0=key/\t0=t/\j=s)\/(j0=j/\t0=t/\j≠key)):=by
   intro j t c g;rcases hg j t c g with ⟨rfl,rfl,rfl⟩|⟨rfl,h0,g2⟩|⟨h0,h1,g2⟩
   ·exact Or.inl ⟨rfl,rfl⟩
   ·obtain ⟨t',rfl⟩ : ∃ t',t=t'+1:=⟨t-1,by omega⟩
    exact Or.inr ⟨_,_,_,g2,by rw[BR,F1],Or.inl ⟨rfl,rfl,rfl⟩⟩
   ·exact Or.inr ⟨_,_,_,g2,by rw[CH _ h0],Or.inr ⟨rfl,rfl,h1⟩⟩
  have nw : ∀ j0 t0 c0,a7 M j0 t0=some c0->CX σ s F s 0≠σ j0 t0:=by
   intro j0 t0 c0 g he;rw[BR,F0]at he;have:=h.sat.old _ _ _ g
   rw[<-he]at this;exact absurd this (Nat.lt_irrefl _)
  intro j t j' t' c c' g g' hj;rcases hold j t c g with ⟨rfl,rfl⟩|⟨j0,t0,c0,a1,a2,a3⟩<;>rcases hold j' t' c' g' with ⟨rfl,rfl⟩|⟨j1,t1,c1,b1,b2,b3⟩
  ·exact ⟨rfl,rfl⟩
  ·rw[b2]at hj;exact absurd hj (nw _ _ _ b1)
  ·rw[a2]at hj;exact absurd hj.symm (nw _ _ _ a1)
  ·rw[a2,b2]at hj
   obtain ⟨q1,q2⟩:=h.sat.inj _ _ _ _ _ _ a1 b1 hj;rcases a3 with ⟨x1,x2,x3⟩|⟨x1,x2,x3⟩<;>rcases b3 with ⟨y1,y2,y3⟩|⟨y1,y2,y3⟩
   ·exact ⟨x3.trans y3.symm,x2.symm.trans (q2.trans y2)⟩
   ·exact absurd (y1.symm.trans (q1.symm.trans x1)) y3
   ·exact absurd (x1.symm.trans (q1.trans y1)) x3
   ·exact ⟨x1.symm.trans (q1.trans y1),x2.symm.trans (q2.trans y2)⟩
 ·intro j t c g hw
  rcases hg j t c g with ⟨rfl,rfl,rfl⟩|⟨rfl,h0,g2⟩|⟨h0,h1,g2⟩
  ·rw[BR,F0];exact h.sat.low _ _ _ r0 rfl
  ·obtain ⟨t',rfl⟩ : ∃ t',t=t'+1:=⟨t-1,by omega⟩
   rw[BR,F1];exact h.sat.low _ _ _ g2 hw
  ·rw[CH _ h0];exact h.sat.low _ _ _ g2 hw
theorem aX {k:Nat} {v:AV} (h:NL k v=false):OX k v=false:=by
 cases v with
 | row j t z o n=>simp only[NL]at h;simp only[OX,h,cond_false]
 | ptr j t a b=>simp only[NL]at h;simp only[OX,h,cond_false]
 | _=>rfl
theorem UI {k:Nat} : ∀ {cs:List AV},H5 k cs=false->N6 k cs=false
 | [],_=>rfl
 | c::r,h=>by
  simp only[H5]at h;cases h1:NL k c<;>simp only[h1,cond_true,cond_false]at h
  ·simp only[N6,aX h1,cond_false,UI h]
  ·cases h
theorem kT {k:Nat} : ∀ {es:List (List AV)},QB k es=false->SK k es=false
 | [],_=>rfl
 | c::r,h=>by
  simp only[QB]at h;cases h1:H5 k c<;>simp only[h1,cond_true,cond_false]at h
  ·simp only[SK,UI h1,cond_false,kT h]
  ·cases h
theorem UH {k:Nat} {v:AV} (h:PD k v=false):QX k v=false:=by
 cases v with
 | agg cs=>exact UI h
 | fn p f g cs=>exact UI h
 | row a b c d e=>exact aX (v := .row a b c d e) h
 | ptr a b c d=>exact aX (v := .ptr a b c d) h
 | _=>rfl
theorem kS {k:Nat} : ∀ {cs:List AV},TH k cs=false->SJ k cs=false
 | [],_=>rfl
 | c::r,h=>by
  simp only[TH]at h;cases h1:PD k c<;>simp only[h1,cond_true,cond_false]at h
  ·simp only[SJ,UH h1,cond_false,kS h]
  ·cases h
theorem Sa {k:Nat} {v:AV} (h:NM k v=false):PT k v=false:=by
 cases v with
 | e6 cs=>exact kS h
 | agg cs=>exact UH (v := .agg cs) h
 | fn p f g cs=>exact UH (v := .fn p f g cs) h
 | row a b c d e=>exact UH (v := .row a b c d e) h
 | ptr a b c d=>exact UH (v := .ptr a b c d) h
 | _=>rfl
theorem kV {k:Nat} : ∀ {tm:Tm},HH k tm=false->IY k tm=false
 | [],_=>rfl
 | (i,v)::r,h=>by
  simp only[HH]at h;cases h1:NM k v<;>simp only[h1,cond_true,cond_false]at h
  ·simp only[IY,Sa h1,cond_false,kV h]
  ·cases h
theorem kU {k:Nat} : ∀ {M:Mem},GK k M=false->HQ k M=false
 | [],_=>rfl
 | (i,s,c)::r,h=>by
  simp only[GK]at h;cases h0:Nat.beq k i<;>simp only[h0,cond_true,cond_false]at h
  ·cases h1:HG k c<;>simp only[h1,cond_true,cond_false]at h
   ·have:N5 k c=false:=by
     cases c with
     | bx cs=>exact UI h1
     | bs z es=>exact kT h1
     | _=>rfl
    simp only[HQ,this,cond_false,kU h]
   ·cases h
  ·cases h
theorem RX.hid {M1 M2:Mem} (hm : ∀ k,b7 M1 k=b7 M2 k) (h:RX σ tm M1 st):RX σ tm M2 st:=by
 have hr : ∀ k t,a7 M1 k t=a7 M2 k t:=λ k t=>by simp only[a7,hm]
 refine ⟨h.tm,⟨λ k s c e => ?_,λ k t c e => ?_,λ k t c e => ?_,λ k t k' t' c c' e e' => ?_,λ k t c e hw => ?_⟩⟩
 ·rw[<-hm]at e;exact h.sat.site _ _ _ e
 ·rw[<-hr]at e;exact h.sat.c7 _ _ _ e
 ·rw[<-hr]at e;exact h.sat.old _ _ _ e
 ·rw[<-hr]at e e';exact h.sat.inj _ _ _ _ _ _ e e'
 ·rw[<-hr]at e;exact h.sat.low _ _ _ e hw
theorem RX.Nm (h:RX σ tm M st) {s q k2 s2 z:Nat} {es:List (List AV)} (e2:b7 M k2=some (s2,.rw z es)) (hk:s≠k2) (hm:GK s M=false) (ht:HH s tm=false) (hq:EQ q=true) :
  ∃ σ',σ' s 0=(q,st.own.e8 q)/\RX σ' tm ((s,q,.mx [some (z,es)])::m9 k2 M) ⟨st.tm,st.own.put q ((st.own q).new ⟨1,[[.row (σ k2 0).1 (σ k2 0).2 z 0 es.length]]⟩)⟩:=by
 have jy:A8.flat (.mx [none]):=by
  intro i x hx;cases i with
  | zero=>simp at hx
  | succ i=>simp at hx
 have h1:=h.gy (s:=s) (q:=q) hm ht (.mx [none]) jy rfl (λ_=>hq);have Ao:b7 ((s,q,.mx [none])::M) k2=some (s2,.rw z es):=by
  simp only[b7,E7.2 (λ e=>hk e.symm),cond_false];exact e2
 have nh:HQ s ((s,q,.mx [none])::M)=false:=by simp only[HQ,N5,cond_false,kU hm]
 have h2:=h1.Cu (k:=s) (s:=q) (k2:=k2) (i:=0) (rows:=[none]) (c0 := .mx [none]) (by simp [b7]) (Or.inl rfl) Ao hk (kV ht) nh (by simp);refine ⟨CX σ s (λ t=>if t=0+1 then σ k2 0 else (q,st.own.e8 q)),?_,?_⟩
 ·rw[BR];simp
 ·have hσ:(CX (CX σ s λ_=>(q,st.own.e8 q)) s λ t=>if t=0+1 then (CX σ s λ_=>(q,st.own.e8 q)) k2 0 else (CX σ s λ_=>(q,st.own.e8 q)) s t)=CX σ s (λ t=>if t=0+1 then σ k2 0 else (q,st.own.e8 q)):=by
   funext j t
   by_cases hj:j=s
   ·subst hj;rw[BR,BR];simp only[BR,CH _ (λ e=>hk e.symm)]
   ·rw[CH _ hj,CH _ hj,CH _ hj]
  rw[hσ]at h2;have hM:m9 k2 ((s,q,A8.mx [none])::M)=(s,q,.mx [none])::m9 k2 M:=by
   simp only[m9,E7.2 (λ e=>hk e.symm),cond_false]
  rw[hM]at h2;have ho : ∀ b b':DR,(st.own.put q ((st.own q).new b)).put q (((st.own.put q ((st.own q).new b)) q).m7 (st.own.e8 q) (some b'))=st.own.put q ((st.own q).new b'):=by
   intro b b';rw[AH.qz,AH.g7];congr 1;simp only[CB.m7,CB.new,AH.e8,CB.mk.injEq,true_and];funext t'
   by_cases oi:t'=(st.own q).e8<;>simp [oi]
  have hn:(CX σ s λ_=>(q,st.own.e8 q)) s 0=(q,st.own.e8 q):=by rw[BR]
  have ig:(CX σ s λ_=>(q,st.own.e8 q)) k2=σ k2:=CH _ (λ e=>hk e.symm);simp only[hn,ig]at h2;rw[ho]at h2;refine RX.hid (λ k => ?_) h2;simp only[b7];cases Nat.beq k s<;>rfl
theorem RX.Iz (h:RX σ tm M st) {s key k2 ky s' s2 z:Nat} {rows:List (Option (Nat × List (List AV)))} {es:List (List AV)} (e:b7 M key=some (s',.mx rows)) (e2:b7 M k2=some (s2,.rw z es)) (hk:key≠k2) (hm:GK s M=false) (ht:HH s tm=false) :
  RX (CX σ s λ t=>match t with|0=>(s',st.own.e8 s')|i+1=>if i=rows.length then σ k2 0 else σ key (i+1)) tm ((s,s',.mx (rows++[some (z,es)]))::m9 key (m9 k2 (m9 ky M)))
   ⟨st.tm,st.own.put s' (((st.own s').m7 (σ key 0).2 none).new ⟨1,B6 σ key 0 rows++[[.row (σ k2 0).1 (σ k2 0).2 z 0 es.length]]⟩)⟩:=by
 have hs:=h.sat.site _ _ _ e;subst hs;have r0:=D6 e;have r2:=D6 e2;generalize hF:(λ t=>match t with|0=>((σ key 0).1,st.own.e8 (σ key 0).1)|i+1=>if i=rows.length then σ k2 0 else σ key (i+1):Nat->Nat × Nat)=F;have F0:F 0=((σ key 0).1,st.own.e8 (σ key 0).1):=by rw[<-hF]
 have F1 : ∀ i,F (i+1)=if i=rows.length then σ k2 0 else σ key (i+1):=by intro i;rw[<-hF]
 have jk:B6 (CX σ s F) s 0 (rows++[some (z,es)])=B6 σ key 0 rows++[[.row (σ k2 0).1 (σ k2 0).2 z 0 es.length]]:=by
  apply List.ext_getElem?;intro j;rw[E2,BR];rcases Nat.lt_trichotomy j rows.length with hj|hj|hj
  ·rw[List.getElem?_append_left hj,List.getElem?_append_left (by rw[E3];exact hj),E2]
   congr 1;funext r
   cases r with
   | none=>rfl
   | some x=>simp only[Nat.zero_add];rw[F1,if_neg (by omega)]
  ·subst hj
   rw[List.getElem?_append_right (Nat.le_refl _),List.getElem?_append_right (by rw[E3];exact Nat.le_refl _),E3];simp [F1]
  ·rw[List.getElem?_eq_none (by simp;omega),List.getElem?_eq_none (by simp [E3];omega)];rfl
 have Cn : ∀ j t c',a7 M j t=some c'->HG s c'=false/\j≠s:=by
  intro j t c' g;obtain ⟨s1,c0,g1,g2,g3⟩:=GF g;obtain ⟨g4,g5⟩:=RQ hm _ _ _ g1;refine ⟨?_,g4⟩;cases t with
  | zero=>rw[g2 rfl];exact g5
  | succ i=>obtain ⟨rows,z,es,_,_,rfl⟩:=g3 i rfl;rfl
 have hg : ∀ j t c,a7 ((s,(σ key 0).1,.mx (rows++[some (z,es)]))::m9 key (m9 k2 (m9 ky M))) j t=some c ->
   (j=s/\t=0/\c = .mx (rows++[some (z,es)]))\/(j=s/\t=rows.length+1/\c = .rw z es)\/(j=s/\t≠0/\t≠rows.length+1/\a7 M key t=some c)\/(j≠s/\j≠key/\j≠k2/\a7 M j t=some c):=by
  intro j t c g;by_cases hj:j=s
  ·subst hj
   cases t with
   | zero=>rw[P5]at g;exact Or.inl ⟨rfl,rfl,(Option.some.inj g).symm⟩
   | succ t =>
    simp only[a7,b7,Nat.beq_refl,cond_true]at g;rcases Nat.lt_trichotomy t rows.length with oi|oi|oi
    ·rw[List.getElem?_append_left oi]at g
     refine Or.inr (Or.inr (Or.inl ⟨rfl,by omega,by omega,?_⟩));simp only[a7,e];exact g
    ·subst oi
     rw[List.getElem?_append_right (Nat.le_refl _),Nat.sub_self]at g;exact Or.inr (Or.inl ⟨rfl,rfl,(Option.some.inj g).symm⟩)
    ·rw[List.getElem?_eq_none (by simp;omega)]at g;cases g
  ·rw[J5 hj]at g
   obtain ⟨g1,g2⟩:=LJ g;obtain ⟨g3,g4⟩:=LJ g2;obtain ⟨_,g5⟩:=LJ g4;exact Or.inr (Or.inr (Or.inr ⟨hj,g1,g3,g5⟩))
 refine ⟨λ j => ?_,⟨?_,?_,?_,?_,?_⟩⟩
 ·rw[ZX (TI ht j)];exact h.tm j
 ·intro j s1 c g
  simp only[b7]at g;cases hb:Nat.beq j s<;>simp only[hb,cond_true,cond_false]at g
  ·rw[CH _ (E7.1 hb)];exact h.sat.site _ _ _ (OE (OE (OE g).2).2).2
  ·simp only[Option.some.injEq,Prod.mk.injEq]at g
   rw[BQ.1 hb,BR,F0,<-g.1]
 ·intro j t c g
  rcases hg j t c g with ⟨rfl,rfl,rfl⟩|⟨rfl,rfl,rfl⟩|⟨rfl,h0,h1,g2⟩|⟨h0,h1,h2,g2⟩
  ·rw[BR,F0]
   simp only[A8.c7,jk];simp [AH.g7,CB.new,AH.e8,CB.m7]
  ·rw[BR,F1,if_pos rfl]
   exact (RE (λ he=>hk (h.sat.inj _ _ _ _ _ _ r2 r0 he).1.symm) (h.sat.old _ _ _ r2)).trans (h.sat.c7 _ _ _ r2)
  ·obtain ⟨t',rfl⟩ : ∃ t',t=t'+1:=⟨t-1,by omega⟩
   rw[BR,F1,if_neg (by omega)];have hb:c.c7 (CX σ j F) j=c.c7 σ key:=by
    obtain ⟨_,_,_,_,g3⟩:=GF g2;obtain ⟨_,_,_,_,_,rfl⟩:=g3 t' rfl;rfl
   rw[hb];exact (RE (λ he=>absurd (h.sat.inj _ _ _ _ _ _ g2 r0 he).2 (by omega)) (h.sat.old _ _ _ g2)).trans (h.sat.c7 _ _ _ g2)
  ·rw[CH _ h0,XA (Cn _ _ _ g2).1 h0]
   exact (RE (λ he=>h1 (h.sat.inj _ _ _ _ _ _ g2 r0 he).1) (h.sat.old _ _ _ g2)).trans (h.sat.c7 _ _ _ g2)
 ·intro j t c g
  rcases hg j t c g with ⟨rfl,rfl,rfl⟩|⟨rfl,rfl,rfl⟩|⟨rfl,h0,h1,g2⟩|⟨h0,h1,h2,g2⟩
  ·rw[BR,F0]
   simp [AH.g7,CB.new,AH.e8,CB.m7]
  ·rw[BR,F1,if_pos rfl]
   exact Nat.lt_of_lt_of_le (h.sat.old _ _ _ r2) (RF _)
  ·obtain ⟨t',rfl⟩ : ∃ t',t=t'+1:=⟨t-1,by omega⟩
   rw[BR,F1,if_neg (by omega)];exact Nat.lt_of_lt_of_le (h.sat.old _ _ _ g2) (RF _)
  ·rw[CH _ h0]
   exact Nat.lt_of_lt_of_le (h.sat.old _ _ _ g2) (RF _)
 ·have hold : ∀ j t c,a7 ((s,(σ key 0).1,.mx (rows++[some (z,es)]))::m9 key (m9 k2 (m9 ky M))) j t=some c->(j=s/\t=0) \/ ∃ j0 t0 c0,a7 M j0 t0=some c0/\CX σ s F j t=σ j0 t0/\((j0=k2/\t0=0/\j=s/\t=rows.length+1)\/(j0=key/\t0=t/\j=s)\/(j0=j/\t0=t/\j≠key/\j≠k2)):=by
   intro j t c g;rcases hg j t c g with ⟨rfl,rfl,rfl⟩|⟨rfl,rfl,rfl⟩|⟨rfl,h0,h1,g2⟩|⟨h0,h1,h2,g2⟩
   ·exact Or.inl ⟨rfl,rfl⟩
   ·exact Or.inr ⟨_,_,_,r2,by rw[BR,F1,if_pos rfl],Or.inl ⟨rfl,rfl,rfl,rfl⟩⟩
   ·obtain ⟨t',rfl⟩ : ∃ t',t=t'+1:=⟨t-1,by omega⟩
    exact Or.inr ⟨_,_,_,g2,by rw[BR,F1,if_neg (by omega)],Or.inr (Or.inl ⟨rfl,rfl,rfl⟩)⟩
   ·exact Or.inr ⟨_,_,_,g2,by rw[CH _ h0],Or.inr (Or.inr ⟨rfl,rfl,h1,h2⟩)⟩
  have nw : ∀ j0 t0 c0,a7 M j0 t0=some c0->CX σ s F s 0≠σ j0 t0:=by
   intro j0 t0 c0 g he;rw[BR,F0]at he;have:=h.sat.old _ _ _ g
   rw[<-he]at this;exact absurd this (Nat.lt_irrefl _)
  intro j t j' t' c c' g g' hj;rcases hold j t c g with ⟨rfl,rfl⟩|⟨j0,t0,c0,a1,a2,a3⟩<;>rcases hold j' t' c' g' with ⟨rfl,rfl⟩|⟨j1,t1,c1,b1,b2,b3⟩
  ·exact ⟨rfl,rfl⟩
  ·rw[b2]at hj;exact absurd hj (nw _ _ _ b1)
  ·rw[a2]at hj;exact absurd hj.symm (nw _ _ _ a1)
  ·rw[a2,b2]at hj
   obtain ⟨q1,q2⟩:=h.sat.inj _ _ _ _ _ _ a1 b1 hj;rcases a3 with ⟨x1,x2,x3,x4⟩|⟨x1,x2,x3⟩|⟨x1,x2,x3,x4⟩<;>rcases b3 with ⟨y1,y2,y3,y4⟩|⟨y1,y2,y3⟩|⟨y1,y2,y3,y4⟩
   ·exact ⟨x3.trans y3.symm,x4.trans y4.symm⟩
   ·exact absurd (y1.symm.trans (q1.symm.trans x1)) hk
   ·exact absurd (y1.symm.trans (q1.symm.trans x1)) y4
   ·exact absurd (x1.symm.trans (q1.trans y1)) hk
   ·exact ⟨x3.trans y3.symm,x2.symm.trans (q2.trans y2)⟩
   ·exact absurd (y1.symm.trans (q1.symm.trans x1)) y3
   ·exact absurd (x1.symm.trans (q1.trans y1)) x4
   ·exact absurd (x1.symm.trans (q1.trans y1)) x3
   ·exact ⟨x1.symm.trans (q1.trans y1),x2.symm.trans (q2.trans y2)⟩
 ·intro j t c g hw
  rcases hg j t c g with ⟨rfl,rfl,rfl⟩|⟨rfl,rfl,rfl⟩|⟨rfl,h0,h1,g2⟩|⟨h0,h1,h2,g2⟩
  ·rw[BR,F0];exact h.sat.low _ _ _ r0 rfl
  ·rw[BR,F1,if_pos rfl];exact h.sat.low _ _ _ r2 rfl
  ·obtain ⟨t',rfl⟩ : ∃ t',t=t'+1:=⟨t-1,by omega⟩
   rw[BR,F1,if_neg (by omega)];exact h.sat.low _ _ _ g2 hw
  ·rw[CH _ h0];exact h.sat.low _ _ _ g2 hw
theorem GW (k:IntKind) (n:Int):BG σ (.int k n) = .int k n:=rfl
theorem GV (b:Bool):BG σ (.bool b) = .bool b:=rfl
theorem HI (l:Bool) (es:List (List AV)):BG σ (.sl l es) = .sl l es:=rfl
theorem DL (k t z o n:Nat):BG σ (.row k t z o n) = .row (σ k t).1 (σ k t).2 z o n:=rfl
theorem D8 (k t i j:Nat):BG σ (.ptr k t i j) = .ptr (σ k t).1 (σ k t).2 i j:=rfl
theorem IM (cs:List AV):BG σ (.o5 cs) = .o5 cs:=rfl
theorem FB:BG σ .nil = .nil:=rfl
theorem H8 (cs:List AV):BG σ (.agg cs) = .agg (cs.map (A7 σ)):=rfl
theorem AgP (v:Value):BG σ (.bj v) = .bj v:=rfl
theorem ZO (p:Bool) (f g:Nat) (cs:List AV):BG σ (.fn p f g cs) = .fn p f g (cs.map (A7 σ)):=rfl
theorem H9 (cs:List AV):BG σ (.e6 cs) = .e6 (cs.map (BJ σ)):=rfl
def B9.res (own:AH):B9->AV × AH
 | .val v=>(v,own)
 | .new s b f=>(f (own.e8 s),own.put s ((own s).new b))
 | .yn s b f=>(f (own.e8 s),own.put s ((own s).new b))
 | .ct v o=>(v,o)
 | .Al s v o=>(v,o.put s (own s))
 | .m7 s x=>(.e6 [],own.put s x)
 | .wv s x v=>(v,own.put s x)
theorem aP (st:St) (d:Option Nat) (E:B9):st.app d E=⟨(st.dst d (E.res st.own).1).tm,(E.res st.own).2⟩:=by
 cases E<;>cases d<;>rfl
def BU (L:Lib) (tm:Tm) (a8:List Nat) (K:AV->Mem->Prop) (op:DT) (st:St):Prop :=
 ∃ E σ' v M',(∀ c,c8 (CJ L c) a8 st.ev st.own op=some E)/\K v M'/\(E.res st.own).1=BG σ' v/\RX σ' tm M' ⟨st.tm,(E.res st.own).2⟩
theorem BU.val {L:Lib} {a8:List Nat} {K:AV->Mem->Prop} {op:DT} (h:RX σ tm M st) (v:AV) (he : ∀ c,c8 (CJ L c) a8 st.ev st.own op=some (.val (BG σ v))) (hk:K v M):BU L tm a8 K op st :=
 ⟨_,σ,v,M,he,hk,rfl,h⟩
variable {L:Lib} {a8:List Nat} {K:AV->Mem->Prop}
theorem Sf {x:AP} (hr:RX σ tm M st) (h:XE L tm M a8 K (.n0 x)):BU L tm a8 K (.n0 x) st:=by
 simp only[XE]at h;obtain ⟨h1,h2⟩:=YD h;exact BU.val hr _ (λ C=>by simp only[c8,hr.ev rfl h1]) h2
theorem Sn {s z:Nat} (hr:RX σ tm M st) (h:XE L tm M a8 K (.v9 s z)):BU L tm a8 K (.v9 s z) st:=by
 simp only[XE]at h;cases gp:EQ s<;>simp only[gp,cond_true,cond_false]at h;obtain ⟨k,h1,h2,h3⟩:=HL h;refine ⟨_,_,_,_,λ C=>rfl,h3,?_,hr.gy h1 h2 (.rw z []) trivial rfl (λ_=>gp)⟩;simp only[B9.res,DL,D8,BR]
theorem Sh {c a b:AP} (hr:RX σ tm M st) (h:XE L tm M a8 K (.pick c a b)):BU L tm a8 K (.pick c a b) st:=by
 simp only[XE]at h;split at h
 ·rename_i e
  obtain ⟨h1,h2⟩:=YD h;exact BU.val hr _ (λ C=>by simp only[c8,hr.ev e (by intro e;cases e),hr.ev rfl h1,GW,GV,HI,DL,D8,IM,FB,H8,H9]) h2
 ·rename_i e
  obtain ⟨h1,h2⟩:=YD h;exact BU.val hr _ (λ C=>by simp only[c8,hr.ev e (by intro e;cases e),hr.ev rfl h1,GW,GV,HI,DL,D8,IM,FB,H8,H9]) h2
 ·exact h.elim
theorem AeQ {op:BinOp} {k k':IntKind} {a b:Int} {v:AV} (h:C9 op k a k' b=some v):BG σ v=v:=by
 cases op<;>simp only[C9]at h<;>split at h<;>first|(obtain rfl:=Option.some.inj h;rfl)|cases h
theorem Afi {k k':IntKind} (h:kq k k'=true):k=k':=by simpa [kq] using h
theorem Te {op:BinOp} {k k':IntKind} {a b:Int} {K:AV->Prop} (h:aQ op k a k' b K) : ∃ v,C9 op k a k' b=some v/\K v:=by
 have key : ∀ (p q:Prop) [Decidable p] (A B:Prop) (c:Bool),(¬ p->q)->AF p q A B->(p/\A)\/(¬ p/\B):=by
  intro p q _ A B _ hq hc;by_cases hp:p
  ·exact Or.inl ⟨hp,hc.1 hp⟩
  ·exact Or.inr ⟨hp,hc.2 (hq hp)⟩
 cases op;all_goals try (exact h)
 all_goals (
  simp only[aQ]at h;cases hk:kq k k'<;>simp only[hk,cond_true,cond_false]at h;obtain rfl:=Afi hk;simp only[C9,if_true])
 ·rcases key (a=b) _ _ _ true (λ e=>e) h with ⟨h1,h2⟩|⟨h1,h2⟩
  ·exact ⟨_,rfl,by rw[show (a == b)=true by simpa using h1];exact h2⟩
  ·exact ⟨_,rfl,by rw[show (a == b)=false by simpa using h1];exact h2⟩
 ·rcases key (a≠b) _ _ _ true (λ e=>by omega) h with ⟨h1,h2⟩|⟨h1,h2⟩
  ·exact ⟨_,rfl,by rw[show (a != b)=true by simpa using h1];exact h2⟩
  ·exact ⟨_,rfl,by rw[show (a != b)=false by simpa using h1];exact h2⟩
 ·rcases key (a<b) _ _ _ true (λ e=>by omega) h with ⟨h1,h2⟩|⟨h1,h2⟩
  ·exact ⟨_,rfl,by simpa [h1] using h2⟩
  ·exact ⟨_,rfl,by simpa [h1] using h2⟩
 ·rcases key (a<=b) _ _ _ true (λ e=>by omega) h with ⟨h1,h2⟩|⟨h1,h2⟩
  ·exact ⟨_,rfl,by simpa [h1] using h2⟩
  ·exact ⟨_,rfl,by simpa [h1] using h2⟩
 ·rcases key (b<a) _ _ _ true (λ e=>by omega) h with ⟨h1,h2⟩|⟨h1,h2⟩
  ·exact ⟨_,rfl,by simpa [h1] using h2⟩
  ·exact ⟨_,rfl,by simpa [h1] using h2⟩
 ·rcases key (b<=a) _ _ _ true (λ e=>by omega) h with ⟨h1,h2⟩|⟨h1,h2⟩
  ·exact ⟨_,rfl,by simpa [h1] using h2⟩
  ·exact ⟨_,rfl,by simpa [h1] using h2⟩
theorem Ts {op:BinOp} {x y:AP} (hr:RX σ tm M st) (h:XE L tm M a8 K (.bin op x y)):BU L tm a8 K (.bin op x y) st:=by
 simp only[XE]at h;split at h
 ·rename_i k a k' b e1 e2
  obtain ⟨v,hv,hk⟩:=Te h;exact BU.val hr v (λ C=>by
   simp only[c8,hr.ev e1 (by intro e;cases e),hr.ev e2 (by intro e;cases e),GW,GV,HI,DL,D8,IM,FB,H8,H9,hv,Option.map_some];exact congrArg some (congrArg B9.val (AeQ (σ:=σ) hv).symm)) hk
 ·exact h.elim
theorem Tr {ne:Bool} {x y:AP} (hr:RX σ tm M st) (h:XE L tm M a8 K (.beq ne x y)):BU L tm a8 K (.beq ne x y) st:=by
 simp only[XE]at h;split at h
 ·rename_i a b e1 e2
  rw[P2]at h;exact BU.val hr _ (λ C=>by
   simp only[c8,hr.ev e1 (by intro e;cases e),hr.ev e2 (by intro e;cases e),GW,GV,HI,DL,D8,IM,FB,H8,H9];cases ne<;>rfl) h
 ·exact h.elim
theorem Sl {op:UnOp} {x:AP} (hr:RX σ tm M st) (h:XE L tm M a8 K (.un op x)):BU L tm a8 K (.un op x) st:=by
 simp only[XE]at h;split at h
 ·rename_i k n e1
  obtain ⟨v,hv,hk⟩:=h;refine BU.val hr v (λ C => ?_) hk;simp only[c8,hr.ev e1 (by intro e;cases e),GW,GV,HI,DL,D8,IM,FB,H8,H9,hv,Option.map_some];cases op<;>simp only[QI,Option.some.injEq,reduceCtorEq]at hv<;>subst hv<;>rfl
 ·rename_i b e1
  split at h
  ·rw[P2]at h
   exact BU.val hr _ (λ C=>by simp only[c8,hr.ev e1 (by intro e;cases e),GW,GV,HI,DL,D8,IM,FB,H8,H9,QI,Option.map_some]) h
  ·exact h.elim
 ·exact h.elim
theorem Tx {k:IntKind} {x:AP} (hr:RX σ tm M st) (h:XE L tm M a8 K (.conv k x)):BU L tm a8 K (.conv k x) st:=by
 simp only[XE]at h;split at h
 ·rename_i k' n e1
  exact BU.val hr _ (λ C=>by simp only[c8,hr.ev e1 (by intro e;cases e),GW,GV,HI,DL,D8,IM,FB,H8,H9]) h.h
 ·exact h.elim
theorem Tt {s:Nat} {x:AP} (hr:RX σ tm M st) (h:XE L tm M a8 K (.box s x)):BU L tm a8 K (.box s x) st:=by
 simp only[XE]at h;obtain ⟨h0,cs,hc,h⟩:=YC h;obtain ⟨k,h1,h2,h3⟩:=HL h;refine ⟨.new s (A8.c7 σ k (.bx cs)) (λ t => .ptr s t 0 0),_,_,_,λ C => ?_,h3,?_,hr.gy h1 h2 (.bx cs) trivial (uA (pB h2 x) hc) (λ h=>nomatch h)⟩
 ·simp only[c8,hr.ev rfl h0,N4 hc,List.length_map,A8.c7]
 ·simp only[B9.res,DL,D8,BR]
theorem Tn {s:Nat} {z:List AV} (hr:RX σ tm M st) (h:XE L tm M a8 K (.alloc s z)):BU L tm a8 K (.alloc s z) st:=by
 simp only[XE]at h;cases hd:D4 z<;>simp only[hd,cond_true,cond_false]at h;obtain ⟨k,h1,h2,h3⟩:=HL h;refine ⟨.new s (A8.c7 σ k (.bx z)) (λ t => .ptr s t 0 0),_,_,_,λ C => ?_,h3,?_,hr.gy h1 h2 (.bx z) trivial (bI hd) (λ h=>nomatch h)⟩
 ·simp only[c8,A8.c7,ID hd]
 ·simp only[B9.res,DL,D8,BR]
theorem ZA {cs ds:List AV} {off n:Nat} (h:part cs off n=some ds):part (cs.map (A7 σ)) off n=some (ds.map (A7 σ)):=by
 simp only[part]at h ⊢;split at h
 ·rename_i hl
  rw[if_pos (by simpa using hl)];obtain rfl:=Option.some.inj h;rw[List.map_take,List.map_drop]
 ·cases h
theorem pD {v:AV} {K:AV->Prop} (h:fF v K):v ≠ .any/\BG σ v=A7 σ v/\K v:=by
 cases v<;>simp only[fF]at h<;>first|exact h.elim|exact ⟨(by intro e;cases e),rfl,h⟩
theorem P8 (σ:E0) {agg:Bool} {ds:List AV} {K:AV->Prop} (h:qw agg ds K) : ∃ v,II agg (ds.map (A7 σ))=some (BG σ v)/\K v:=by
 cases agg
 ·simp only[qw]at h
  split at h
  ·rename_i c
   obtain ⟨_,h1,h2⟩:=pD (σ:=σ) h;exact ⟨c,by rw[h1];rfl,h2⟩
  ·exact h.elim
 ·exact ⟨.agg ds,rfl,h⟩
theorem vJ {cs vs:List AV} {j:Nat}:(splice cs j vs).map (A7 σ)=splice (cs.map (A7 σ)) j (vs.map (A7 σ)):=by
 simp only[splice,List.map_append,List.map_take,List.map_drop,List.length_map]
theorem pH (hr:RX σ tm M st) : ∀ {ps:List (Nat × Nat × AP)} {cells:List AV} {K:List AV->Prop},dC tm ps cells K -> ∃ cs,fill (cells.map (A7 σ)) (ps.map λ p=>(p.1,p.2.1,st.ev p.2.2))=some (cs.map (A7 σ))/\K cs
 | [],cells,K,h=>⟨cells,rfl,h⟩
 | p::r,cells,K,h=>by
  obtain ⟨h0,vs,hc,h⟩:=YC (show fC (ex tm p.2.2) λ vs=>bif Nat.beq vs.length p.2.1 then bif Nat.ble (p.1+p.2.1) cells.length then fL (splice cells p.1 vs) λ cells=>dC tm r cells K else False else False from h);cases hz:Nat.beq vs.length p.2.1<;>simp only[hz,cond_true,cond_false]at h;have hl:Nat.ble (p.1+p.2.1) cells.length=true:=by
   cases hl:Nat.ble (p.1+p.2.1) cells.length
   ·rw[hl]at h;exact h.elim
   ·rfl
  rw[hl]at h;simp only[cond_true,G4]at h;obtain ⟨cs,h1,h2⟩:=pH hr h;refine ⟨cs,?_,h2⟩;simp only[List.map_cons,fill,hr.ev rfl h0,N4 hc,List.length_map];rw[if_pos ⟨BQ.1 hz,Nat.le_of_ble_eq_true hl⟩,<-vJ];exact h1
theorem Tv {z:List AV} {ps:List (Nat × Nat × AP)} (hr:RX σ tm M st) (h:XE L tm M a8 K (.build z ps)):BU L tm a8 K (.build z ps) st:=by
 simp only[XE]at h;cases hd:D4 z<;>simp only[hd,cond_true,cond_false]at h;obtain ⟨cs,h1,h2⟩:=pH hr h;refine BU.val hr (.agg cs) (λ C => ?_) h2;rw[ID hd]at h1;simp only[c8,h1];rfl
theorem pA : ∀ l:List AP,P1 tm l=l.map (ex tm)
 | []=>rfl
 | x::r=>by rw[P1,pA r];rfl
theorem lW : ∀ {es:List (List AV)},UP es=true -> ∀ e∈es,D4 e=true
 | e0::r,h,e,he=>by
  simp only[UP]at h;cases h1:D4 e0<;>simp only[h1,cond_true,cond_false]at h
  ·cases h
  ·rcases List.mem_cons.1 he with rfl|he
   ·exact h1
   ·exact lW h e he
theorem Uv {es:List (List AV)} (h : ∀ e∈es,D4 e=true):(es.map λ cs=>cs.map (A7 σ))=es:=by
 conv=>rhs;rw[<-List.map_id es]
 exact List.map_congr_left λ e he=>ID (h e he)
theorem Afr {es:List (List AV)} {K:Nat->Prop} (h:eF es K):K es.length:=by
 unfold eF at h;split at h<;>exact h
theorem kQ (hr:RX σ tm M st) {z:Nat} : ∀ {l:List AP} {K:List (List AV)->Prop},aT tm z l K -> ∃ es,l.mapM (λ x=>cellsOf (st.ev x))=some (es.map λ cs=>cs.map (A7 σ))/\(∀ e∈es,e.length=z)/\(∀ k,HH k tm=false->QB k es=false)/\K es
 | [],K,h=>⟨[],rfl,(λ e he=>by cases he),λ_ _=>rfl,h⟩
 | x::r,K,h=>by
  obtain ⟨h0,cs,hc,h⟩:=YC (show fC (ex tm x) λ cs=>bif Nat.beq cs.length z then aT tm z r λ es=>K (cs::es) else False from h);cases hz:Nat.beq cs.length z<;>simp only[hz,cond_true,cond_false]at h;obtain ⟨es,h1,h2,h4,h3⟩:=kQ hr h;refine ⟨cs::es,?_,λ e he => ?_,λ k hk => ?_,h3⟩
  ·rw[List.mapM_cons,h1,hr.ev rfl h0,N4 hc];rfl
  ·rcases List.mem_cons.1 he with rfl|he
   ·exact BQ.1 hz
   ·exact h2 e he
  ·simp only[QB,uA (pB hk x) hc,cond_false,h4 k hk]
theorem evL (hr:RX σ tm M st) {xs:List AP} (h : ∀ v∈P1 tm xs,v ≠ .any):xs.map st.ev=(P1 tm xs).map (BG σ):=by
 rw[pA]at h ⊢;rw[List.map_map];exact List.map_congr_left λ x hx=>hr.ev rfl (h _ (List.mem_map_of_mem hx))
theorem Tu {s z:Nat} {ps:List AP} (hr:RX σ tm M st) (h:XE L tm M a8 K (.b9 s z ps)):BU L tm a8 K (.b9 s z ps) st:=by
 simp only[XE]at h;cases gp:EQ s<;>simp only[gp,cond_true,cond_false]at h;obtain ⟨es,g1,g2,g3,h⟩:=kQ hr h;obtain ⟨k,h1,h2,h3⟩:=HL (Afr h);have key : ∀ c:A8,c.flat->HG k c=false->c.c7 σ k=⟨z,es.map λ cs=>cs.map (A7 σ)⟩->K (.row k 0 z 0 es.length) ((k,s,c)::M)->BU L tm a8 K (.b9 s z ps) st:=by
  intro c hf hc hb hk;refine ⟨.new s (c.c7 σ k) (λ t => .row s t z 0 es.length),_,_,_,λ C => ?_,hk,?_,hr.gy h1 h2 c hf hc (λ_=>gp)⟩
  ·simp only[c8,g1,hb]
   rw[if_pos (λ e he=>by obtain ⟨e',iv,rfl⟩:=List.mem_map.1 he;simpa using g2 e' iv)];simp only[List.length_map]
  ·simp only[B9.res,DL,BR]
 cases hd:UP es<;>simp only[hd,cond_true,cond_false]at h3
 ·exact key (.bs z es) trivial (g3 k h2) rfl h3
 ·exact key (.rw z es) trivial rfl (by simp only[A8.c7];rw[Uv (lW hd)]) h3
theorem Ua {x:AP} {off:Nat} (hr:RX σ tm M st) (h:XE L tm M a8 K (.u6 x off)):BU L tm a8 K (.u6 x off) st:=by
 simp only[XE]at h;split at h
 ·rename_i key t i j e
  exact BU.val hr _ (λ C=>by simp only[c8,hr.ev e (by intro e;cases e),GW,GV,HI,DL,D8,IM,FB,H8,H9]) h
 ·rename_i cs e
  rw[G4]at h;exact BU.val hr _ (λ C=>by simp only[c8,hr.ev e (by intro e;cases e),GW,GV,HI,DL,D8,IM,FB,H8,H9]) h
 ·exact h.elim
theorem Ub {x:AP} {off n:Nat} {agg:Bool} (hr:RX σ tm M st) (h:XE L tm M a8 K (.oz x off n agg)):BU L tm a8 K (.oz x off n agg) st:=by
 simp only[XE]at h;split at h
 ·rename_i cs e
  split at h
  ·rename_i ds hp
   rw[G4]at h;obtain ⟨v,h1,h2⟩:=P8 σ h;exact BU.val hr v (λ C=>by simp only[c8,hr.ev e (by intro e;cases e),H8,ZA hp,h1,Option.map_some]) h2
  ·exact h.elim
 ·exact h.elim
theorem Ud {arr:Option Nat} {z:Nat} {x i:AP} (hr:RX σ tm M st) (h:XE L tm M a8 K (.q7 arr z x i)):BU L tm a8 K (.q7 arr z x i) st:=by
 simp only[XE]at h;split at h
 ·rename_i kd n e1
  split at h
  ·rename_i len key t i' j e2
   obtain ⟨h1,h2⟩:=h;exact BU.val hr _ (λ C=>by simp only[c8,hr.ev e1 (by intro e;cases e),hr.ev e2 (by intro e;cases e),GW,GV,HI,DL,D8,IM,FB,H8,H9];rw[if_pos h1]) h2
  ·rename_i len cs e2
   obtain ⟨h1,h2⟩:=h;rw[G4]at h2;exact BU.val hr _ (λ C=>by simp only[c8,hr.ev e1 (by intro e;cases e),hr.ev e2 (by intro e;cases e),GW,GV,HI,DL,D8,IM,FB,H8,H9];rw[if_pos h1]) h2
  ·rename_i key t z' off len e2
   cases hz:Nat.beq z' z<;>simp only[hz,cond_true,cond_false]at h;obtain ⟨h1,h2⟩:=h;exact BU.val hr _ (λ C=>by simp only[c8,hr.ev e1 (by intro e;cases e),hr.ev e2 (by intro e;cases e),GW,GV,HI,DL,D8,IM,FB,H8,H9];rw[if_pos ⟨h1.1,h1.2,BQ.1 hz⟩]) h2
  ·rename_i q es e2
   obtain ⟨h1,cs,h2,h3,h4⟩:=h;exact BU.val hr _ (λ C=>by simp only[c8,hr.ev e1 (by intro e;cases e),hr.ev e2 (by intro e;cases e),GW,GV,HI,DL,D8,IM,FB,H8,H9,h2];rw[if_pos h1,if_pos h3]) h4
  ·exact h.elim
 ·exact h.elim
theorem TE {s:Nat} {own:AH} : ∀ {a8:List Nat},P9 s a8=true->own.l6 a8 s=own s
 | [],_=>rfl
 | b::r,h=>by
  have hm:I7 s (b::r)=false:=by simpa [P9] using h
  have : ∀ l:List Nat,I7 s l=false->own.l6 l s=own s:=by
   intro l;induction l with
   | nil=>intro _;rfl
   | cons b r ih =>
    intro h;simp only[I7]at h;cases hb:Nat.beq s b<;>simp only[hb,cond_true,cond_false]at h
    ·simp only[AH.l6]
     rw[if_neg (E7.1 hb)];exact ih h
    ·cases h
  exact this _ hm
theorem fI {s:Nat} {own:AH} (hs:EQ s=true) : ∀ {a8:List Nat},RK a8=true->own.l6 a8 s=own s
 | [],_=>rfl
 | b::r,h=>by
  simp only[RK]at h;cases hb:EQ b<;>simp only[hb,cond_true,cond_false]at h
  ·have k8:s≠b:=λ e=>by rw[e,hb]at hs;cases hs
   show (if s=b then _ else own.l6 r s)=own s;rw[if_neg k8];exact fI hs h
  ·cases h
theorem Uf {agg:Bool} {n:Nat} {x:AP} (hr:RX σ tm M st) (h:XE L tm M a8 K (.ld agg n x)):BU L tm a8 K (.ld agg n x) st:=by
 simp only[XE]at h;split at h
 ·rename_i key t i j e
  split at h
  ·rename_i s c hm
   have hs:=hr.sat.site _ _ _ hm;split at h
   ·cases hb:P9 s a8<;>simp only[hb,cond_true,cond_false]at h
    have y9:=hr.sat.c7 _ _ _ (D6 hm);rw[hs]at y9;split at h
    ·rename_i cs
     cases hi:Nat.beq i 0<;>simp only[hi,cond_true,cond_false]at h;obtain rfl:=BQ.1 hi;split at h
     ·rename_i ds hp
      rw[G4]at h;obtain ⟨v,h1,h2⟩:=P8 σ h;exact BU.val hr v (λ C=>by
       simp only[c8,hr.ev e (by intro e;cases e),D8,AH.nv,AH.get,hs];rw[TE hb,y9];simp only[A8.c7,List.getElem?_cons_zero,ZA hp,h1,Option.map_some]) h2
     ·exact h.elim
    ·rename_i z es
     obtain ⟨cs,ds,g1,g2,h⟩:=h;rw[G4]at h;cases hd:D4 ds<;>simp only[hd,cond_true,cond_false]at h;obtain ⟨v,h1,h2⟩:=P8 σ h;rw[ID hd]at h1;exact BU.val hr v (λ C=>by
      simp only[c8,hr.ev e (by intro e;cases e),D8,AH.nv,AH.get,hs];rw[TE hb,y9];simp only[A8.c7,g1,g2,h1,Option.map_some]) h2
    ·rename_i z es
     split at h
     ·rename_i cs g1
      split at h
      ·rename_i ds hp
       rw[G4]at h;obtain ⟨v,h1,h2⟩:=P8 σ h;exact BU.val hr v (λ C=>by
        simp only[c8,hr.ev e (by intro e;cases e),D8,AH.nv,AH.get,hs];rw[TE hb,y9];simp only[A8.c7,List.getElem?_map,g1,Option.map_some,ZA hp,h1]) h2
      ·exact h.elim
     ·exact h.elim
    ·rename_i rows
     cases hj:Nat.beq j 0<;>simp only[hj,cond_true,cond_false]at h;cases hn:Nat.beq n 1<;>simp only[hn,cond_true,cond_false]at h;obtain rfl:=BQ.1 hj;obtain rfl:=BQ.1 hn;obtain ⟨r,g1,h⟩:=h;have fin : ∀ c:AV,(B6 σ key 0 rows)[i]? = some [A7 σ c]->qw agg [c] (λ v=>K v M)->BU L tm a8 K (.ld agg 1 x) st:=by
      intro c hc h;obtain ⟨v,h1,h2⟩:=P8 σ h;have hp:part [A7 σ c] 0 1=some [A7 σ c]:=by simp [part]
      exact BU.val hr v (λ C=>by
       simp only[c8,hr.ev e (by intro e;cases e),D8,AH.nv,AH.get,hs];rw[TE hb,y9];simp only[A8.c7,hc,hp];simp only[List.map_cons,List.map_nil]at h1;simp only[h1,Option.map_some]) h2
     split at h
     ·rename_i z es
      exact fin _ (by rw[E2,g1];simp [A7]) h
     ·exact fin _ (by rw[E2,g1];simp [A7]) h
    ·exact h.elim
    ·exact h.elim
   ·rename_i i'
    split at h
    ·rename_i rows
     obtain ⟨z,es,g0,cs,ds,g1,g2,h⟩:=h;rw[G4]at h;cases hd:D4 ds<;>simp only[hd,cond_true,cond_false]at h;obtain ⟨v,h1,h2⟩:=P8 σ h;rw[ID hd]at h1;have y9:=hr.sat.c7 key (i'+1) (.rw z es) (by simp [a7,hm,g0]);exact BU.val hr v (λ C=>by
      simp only[c8,hr.ev e (by intro e;cases e),D8,AH.nv,AH.get,AH.l6];rw[y9];simp only[A8.c7,g1,g2,h1,Option.map_some]) h2
    ·rename_i rows b r
     cases hb:RK (b::r)<;>simp only[hb,cond_true,cond_false]at h;obtain ⟨z,es,g0,cs,ds,g1,g2,h⟩:=h;rw[G4]at h;cases hd:D4 ds<;>simp only[hd,cond_true,cond_false]at h;obtain ⟨v,h1,h2⟩:=P8 σ h;rw[ID hd]at h1;have g':a7 M key (i'+1)=some (.rw z es):=by simp [a7,hm,g0]
     have y9:=hr.sat.c7 key (i'+1) (.rw z es) g';have gp:=hr.sat.low key (i'+1) _ g' rfl;exact BU.val hr v (λ C=>by
      simp only[c8,hr.ev e (by intro e;cases e),D8,AH.nv,AH.get];rw[fI gp hb,y9];simp only[A8.c7,g1,g2,h1,Option.map_some]) h2
    ·exact h.elim
  ·exact h.elim
 ·rename_i cs e
  split at h
  ·rename_i ds hp
   rw[G4]at h;cases hd:D4 ds<;>simp only[hd,cond_true,cond_false]at h;obtain ⟨v,h1,h2⟩:=P8 σ h;rw[ID hd]at h1;exact BU.val hr v (λ C=>by simp only[c8,hr.ev e (by intro e;cases e),IM,hp,h1,Option.map_some]) h2
  ·exact h.elim
 ·exact h.elim
theorem kA {n:Nat} {x v:AP} (hr:RX σ tm M st) (h:XE L tm M a8 K (.st n x v)):BU L tm a8 K (.st n x v) st:=by
 simp only[XE,iD]at h;split at h
 ·rename_i key t i j e
  obtain ⟨h0,vs,hc,h5⟩:=YC h;clear h;cases hn:Nat.beq vs.length n<;>simp only[hn,cond_true,cond_false]at h5;have oh:=BQ.1 hn;split at h5
  ·rename_i s c hm
   have hs:=hr.sat.site _ _ _ hm;split at h5
   ·have y9:=hr.sat.c7 _ _ _ (D6 hm)
    rw[hs]at y9;split at h5
    ·rename_i cs
     cases hi:Nat.beq i 0<;>simp only[hi,cond_true,cond_false]at h5;obtain rfl:=BQ.1 hi;have hl:Nat.ble (j+vs.length) cs.length=true:=by
      cases hl:Nat.ble (j+vs.length) cs.length
      ·rw[hl]at h5;exact h5.elim
      ·rfl
     rw[hl]at h5;simp only[cond_true,G4]at h5;refine ⟨.ct (.e6 []) (st.own.put s ((st.own s).m7 (σ key 0).2 (some (A8.c7 σ key (.bx (splice cs j vs)))))),σ,_,_,λ C => ?_,h5,rfl,hr.Nr hm trivial _ trivial (λ h=>nomatch h)⟩;simp only[c8,hr.ev e (by intro e;cases e),D8,hr.ev rfl h0,N4 hc,List.length_map];rw[if_pos oh];simp only[AH.ko,AH.get,hs,y9,A8.c7,List.getElem?_cons_zero,List.length_map];rw[if_pos (Nat.le_of_ble_eq_true hl)];simp only[Option.map_some,List.set_cons_zero,vJ];have:(splice cs j vs).length=cs.length:=by
      have:=Nat.le_of_ble_eq_true hl
      simp only[splice,List.length_append,List.length_take,List.length_drop];omega
     rw[this]
    ·rename_i z es
     cases hd:D4 vs<;>simp only[hd,cond_true,cond_false]at h5;obtain ⟨cs,g1,g2,h5⟩:=h5;refine ⟨.ct (.e6 []) (st.own.put s ((st.own s).m7 (σ key 0).2 (some (A8.c7 σ key (.rw z (es.set i (splice cs j vs))))))),σ,_,_,λ C => ?_,h5,rfl,hr.Nr hm trivial _ trivial (λ_=>rfl)⟩;simp only[c8,hr.ev e (by intro e;cases e),D8,hr.ev rfl h0,N4 hc,ID hd];rw[if_pos oh];simp only[AH.ko,AH.get,hs,y9,A8.c7,g1];rw[if_pos g2];rfl
    ·exact h5.elim
    ·rename_i rows
     split at h5
     ·rename_i u9 z m
      cases ji:Nat.beq key u9<;>simp only[ji,cond_true,cond_false]at h5;cases az:IY key tm<;>simp only[az,cond_true,cond_false]at h5;cases nh:HQ key M<;>simp only[nh,cond_true,cond_false]at h5;cases hj:Nat.beq j 0<;>simp only[hj,cond_true,cond_false]at h5;obtain rfl:=BQ.1 hj;split at h5
      ·rename_i s2 z' es dv
       cases hz:Nat.beq z z'<;>simp only[hz,cond_true,cond_false]at h5;obtain rfl:=BQ.1 hz;rw[O3]at h5;obtain ⟨rfl,hi,h5⟩:=h5;have hlen:(B6 σ key 0 rows)[i]? = some ((B6 σ key 0 rows)[i]'(by rw[E3];exact hi)):=zE _;have gu:((B6 σ key 0 rows)[i]'(by rw[E3];exact hi)).length=1:=by
        have:=E2 (σ:=σ) (k:=key) rows 0 i
        rw[hlen,zE hi]at this;simp only[Option.map_some,Option.some.injEq]at this;rw[this];split<;>rfl
       refine ⟨.ct (.e6 []) (st.own.put s ((st.own s).m7 (σ key 0).2 (some ⟨1,(B6 σ key 0 rows).set i [.row (σ u9 0).1 (σ u9 0).2 z 0 es.length]⟩))),_,_,_,λ C => ?_,h5,rfl,hr.Cu hm (Or.inl rfl) dv (E7.1 ji) az nh hi⟩;simp only[c8,hr.ev e (by intro e;cases e),D8,hr.ev rfl h0,N4 hc,List.length_map];rw[if_pos oh];simp only[AH.ko,AH.get,hs,y9,A8.c7,hlen,List.map_cons,List.map_nil,List.length_cons,List.length_nil,A7];rw[if_pos (by omega)];simp only[Option.map_some];have Dt:splice ((B6 σ key 0 rows)[i]'(by rw[E3];exact hi)) 0 [.row (σ u9 0).1 (σ u9 0).2 z 0 es.length]=[.row (σ u9 0).1 (σ u9 0).2 z 0 es.length]:=by
        simp only[splice,List.take_zero,List.nil_append,List.length_cons,List.length_nil,Nat.zero_add];rw[List.drop_of_length_le (by omega)];rfl
       rw[Dt]
      ·exact h5.elim
     ·rename_i u9 t2 z m
      cases ji:Nat.beq key u9<;>simp only[ji,cond_true,cond_false]at h5;cases hj:Nat.beq j 0<;>simp only[hj,cond_true,cond_false]at h5;obtain rfl:=BQ.1 hj;obtain rfl:=BQ.1 ji;obtain ⟨z',es,g0,h5⟩:=h5;cases hz:Nat.beq z z'<;>simp only[hz,cond_true,cond_false]at h5;obtain rfl:=BQ.1 hz;obtain ⟨⟨rfl,hi⟩,h5⟩:=h5;have o3:A8.c7 σ key (.vw ((List.range rows.length).set i t2) rows)=⟨1,(B6 σ key 0 rows).set i [.row (σ key (t2+1)).1 (σ key (t2+1)).2 z 0 es.length]⟩:=by
       simp only[A8.c7];congr 1;apply List.ext_getElem?;intro p;rw[List.getElem?_map];by_cases hp:i=p
       ·subst hp
        rw[List.getElem?_set_self (by rw[List.length_range];exact hi),List.getElem?_set_self (by rw[E3];exact hi),Option.map_some,E2,g0];simp
       ·rw[List.getElem?_set_ne hp,List.getElem?_set_ne hp,E2]
        by_cases Dn:p<rows.length
        ·rw[List.getElem?_range Dn,Option.map_some,E2,zE Dn,Option.map_some,Option.getD_some]
        ·rw[List.getElem?_eq_none (by rw[List.length_range];omega),List.getElem?_eq_none (by omega)];rfl
      have hv:=hr.view (w:=(List.range rows.length).set i t2) hm (Or.inl rfl);have hlen:(B6 σ key 0 rows)[i]? = some ((B6 σ key 0 rows)[i]'(by rw[E3];exact hi)):=zE _;have gu:((B6 σ key 0 rows)[i]'(by rw[E3];exact hi)).length=1:=by
       have:=E2 (σ:=σ) (k:=key) rows 0 i
       rw[hlen,zE hi]at this;simp only[Option.map_some,Option.some.injEq]at this;rw[this];split<;>rfl
      refine ⟨.ct (.e6 []) (st.own.put s ((st.own s).m7 (σ key 0).2 (some (A8.c7 σ key (.vw ((List.range rows.length).set i t2) rows))))),_,_,_,λ C => ?_,h5,rfl,hv⟩;rw[o3];simp only[c8,hr.ev e (by intro e;cases e),D8,hr.ev rfl h0,N4 hc,List.length_map];rw[if_pos oh];simp only[AH.ko,AH.get,hs,y9,A8.c7,hlen,List.map_cons,List.map_nil,List.length_cons,List.length_nil,A7];rw[if_pos (by omega)];simp only[Option.map_some];have Dt:splice ((B6 σ key 0 rows)[i]'(by rw[E3];exact hi)) 0 [.row (σ key (t2+1)).1 (σ key (t2+1)).2 z 0 es.length]=[.row (σ key (t2+1)).1 (σ key (t2+1)).2 z 0 es.length]:=by
       simp only[splice,List.take_zero,List.nil_append,List.length_cons,List.length_nil,Nat.zero_add];rw[List.drop_of_length_le (by omega)];rfl
      rw[Dt]
     ·exact h5.elim
    ·rename_i i0 v0 rows
     split at h5
     ·rename_i u9 z m
      cases ji:Nat.beq key u9<;>simp only[ji,cond_true,cond_false]at h5;cases az:IY key tm<;>simp only[az,cond_true,cond_false]at h5;cases nh:HQ key M<;>simp only[nh,cond_true,cond_false]at h5;cases hj:Nat.beq j 0<;>simp only[hj,cond_true,cond_false]at h5;obtain rfl:=BQ.1 hj;split at h5
      ·rename_i s2 z' es dv
       cases hz:Nat.beq z z'<;>simp only[hz,cond_true,cond_false]at h5;obtain rfl:=BQ.1 hz;rw[O3]at h5;obtain ⟨⟨rfl,rfl⟩,hi,h5⟩:=h5;refine ⟨.ct (.e6 []) (st.own.put s ((st.own s).m7 (σ key 0).2 (some ⟨1,(B6 σ key 0 rows).set i [.row (σ u9 0).1 (σ u9 0).2 z 0 es.length]⟩))),_,_,_,λ C => ?_,h5,rfl,hr.Cu hm (Or.inr ⟨v0,rfl⟩) dv (E7.1 ji) az nh hi⟩;simp only[c8,hr.ev e (by intro e;cases e),D8,hr.ev rfl h0,N4 hc,List.length_map];rw[if_pos oh];simp only[AH.ko,AH.get,hs,y9,A8.c7,List.getElem?_set_self (show i<(B6 σ key 0 rows).length by rw[E3];exact hi),List.map_cons,List.map_nil,List.length_cons,List.length_nil,A7];rw[if_pos (by omega)];simp only[Option.map_some,List.set_set];rfl
      ·exact h5.elim
     ·exact h5.elim
    ·rename_i w rows
     split at h5
     ·rename_i u9 t2 z m
      cases ji:Nat.beq key u9<;>simp only[ji,cond_true,cond_false]at h5;cases hj:Nat.beq j 0<;>simp only[hj,cond_true,cond_false]at h5;obtain rfl:=BQ.1 hj;obtain rfl:=BQ.1 ji;obtain ⟨z',es,g0,h5⟩:=h5;cases hz:Nat.beq z z'<;>simp only[hz,cond_true,cond_false]at h5;obtain rfl:=BQ.1 hz;obtain ⟨⟨rfl,hi,hwr⟩,h5⟩:=h5;have o3:A8.c7 σ key (.vw (w.set i t2) rows)=⟨1,(w.map λ t=>((B6 σ key 0 rows)[t]?).getD []).set i [.row (σ key (t2+1)).1 (σ key (t2+1)).2 z 0 es.length]⟩:=by
       simp only[A8.c7];congr 1;apply List.ext_getElem?;intro p;rw[List.getElem?_map];by_cases hp:i=p
       ·subst hp
        rw[List.getElem?_set_self hi,List.getElem?_set_self (by rw[List.length_map];exact hi),Option.map_some,E2,g0];simp
       ·rw[List.getElem?_set_ne hp,List.getElem?_set_ne hp,List.getElem?_map]
      have hv:=hr.view (w:=w.set i t2) hm (Or.inr ⟨w,rfl⟩);have hlen:(w.map λ t=>((B6 σ key 0 rows)[t]?).getD [])[i]? = some ((w.map λ t=>((B6 σ key 0 rows)[t]?).getD [])[i]'(by rw[List.length_map];exact hi)):=zE _;have gu:((w.map λ t=>((B6 σ key 0 rows)[t]?).getD [])[i]'(by rw[List.length_map];exact hi)).length=1:=by
       rw[List.getElem_map];have g9:=hwr w[i] (List.getElem_mem hi);rw[E2,zE g9];simp only[Option.map_some,Option.getD_some];split<;>rfl
      refine ⟨.ct (.e6 []) (st.own.put s ((st.own s).m7 (σ key 0).2 (some (A8.c7 σ key (.vw (w.set i t2) rows))))),_,_,_,λ C => ?_,h5,rfl,hv⟩;rw[o3];simp only[c8,hr.ev e (by intro e;cases e),D8,hr.ev rfl h0,N4 hc,List.length_map];rw[if_pos oh];simp only[AH.ko,AH.get,hs,y9,A8.c7,hlen,List.map_cons,List.map_nil,List.length_cons,List.length_nil,A7];rw[if_pos (by omega)];simp only[Option.map_some];have Dt:splice ((w.map λ t=>((B6 σ key 0 rows)[t]?).getD [])[i]'(by rw[List.length_map];exact hi)) 0 [.row (σ key (t2+1)).1 (σ key (t2+1)).2 z 0 es.length]=[.row (σ key (t2+1)).1 (σ key (t2+1)).2 z 0 es.length]:=by
       simp only[splice,List.take_zero,List.nil_append,List.length_cons,List.length_nil,Nat.zero_add];rw[List.drop_of_length_le (by omega)];rfl
      rw[Dt]
     ·exact h5.elim
   ·rename_i i'
    split at h5
    ·rename_i rows
     cases hd:D4 vs<;>simp only[hd,cond_true,cond_false]at h5;obtain ⟨z,es,g0,cs,g1,g2,g3,h5⟩:=h5;have y9:=hr.sat.c7 key (i'+1) (.rw z es) (by simp [a7,hm,g0]);refine ⟨.ct (.e6 []) (st.own.put (σ key (i'+1)).1 ((st.own (σ key (i'+1)).1).m7 (σ key (i'+1)).2 (some ⟨z,es.set i (splice cs j vs)⟩))),σ,_,_,λ C => ?_,h5,rfl,hr.Nn hm g0 g3⟩;simp only[c8,hr.ev e (by intro e;cases e),D8,hr.ev rfl h0,N4 hc,ID hd];rw[if_pos oh];simp only[AH.ko,AH.get,y9,A8.c7,g1];rw[if_pos g2];rfl
    ·exact h5.elim
  ·exact h5.elim
 ·exact h.elim
theorem Sc {s z bytes:Nat} {zero:List AV} {a c:AP} (hr:RX σ tm M st) (h:XE L tm M a8 K (.mk s z bytes zero a c)):BU L tm a8 K (.mk s z bytes zero a c) st:=by
 simp only[XE]at h;split at h
 ·rename_i k1 p k2 q e1 e2
  cases hz:Nat.beq zero.length z<;>simp only[hz,cond_true,cond_false]at h;cases hd:D4 zero<;>simp only[hd,cond_true,cond_false]at h;split at h
  ·cases gp:EQ s<;>simp only[gp,cond_true,cond_false]at h
   obtain ⟨⟨g1,g2,g3,g4⟩,h⟩:=h;obtain ⟨k,h1,h2,h3⟩:=HL h;have jy:A8.flat (.mx (List.replicate p.toNat none)):=by
    intro i x hx;have:=List.getElem?_replicate (n:=p.toNat) (a:=(none:Option (Nat × List (List AV)))) (i:=i)
    rw[this]at hx;split at hx<;>cases hx
   have ij:z=1:=(BQ.1 hz).symm;have jg:A8.c7 σ k (.mx (List.replicate p.toNat none))=⟨z,List.replicate p.toNat [.nil]⟩:=by
    simp only[A8.c7,ij];congr 1;have : ∀ (n i:Nat),B6 σ k i (List.replicate n none)=List.replicate n [AV.nil]:=by
     intro n;induction n with
     | zero=>intro i;rfl
     | succ n ih=>intro i;rw[List.replicate_succ,List.replicate_succ,B6,ih]
    exact this _ _
   refine ⟨.new s (A8.c7 σ k (.mx (List.replicate p.toNat none))) (λ t => .row s t z 0 p.toNat),_,_,_,λ C => ?_,h3,?_,hr.gy h1 h2 (.mx _) jy rfl (λ_=>gp)⟩
   ·simp only[c8,hr.ev e1 (by intro e;cases e),hr.ev e2 (by intro e;cases e),GW,jg]
    rw[if_pos ⟨g1,g2,g3,g4,BQ.1 hz⟩]
   ·simp only[B9.res,DL,BR]
  ·cases gp:EQ s<;>simp only[gp,cond_true,cond_false]at h
   obtain ⟨⟨g1,g2,g3,g4⟩,h⟩:=h;obtain ⟨k,h1,h2,h3⟩:=HL h;refine ⟨.new s ⟨z,List.replicate p.toNat zero⟩ (λ t => .row s t z 0 p.toNat),_,_,_,λ C => ?_,h3,?_,hr.gy h1 h2 (.rw z _) trivial rfl (λ_=>gp)⟩
   ·simp only[c8,hr.ev e1 (by intro e;cases e),hr.ev e2 (by intro e;cases e),GW]
    rw[if_pos ⟨g1,g2,g3,g4,BQ.1 hz⟩]
   ·simp only[B9.res,DL,BR]
 ·exact h.elim
theorem pC {v:AV} {K:AV->Prop} (h:f2 v K):v ≠ .any/\BG σ v=BJ σ v/\K v:=by
 cases v<;>simp only[f2,G4]at h<;>first|exact h.elim|exact ⟨(by intro e;cases e),rfl,h⟩
theorem qV : ∀ (vs:List AV) (i:Nat),yh vs i ≠ .any->vs[i]? = some (yh vs i)
 | [],_,h=>absurd rfl h
 | _::_,0,_=>rfl
 | _::r,i+1,h=>qV r i h
theorem Tz {x:AP} {i:Nat} (hr:RX σ tm M st) (h:XE L tm M a8 K (.ext x i)):BU L tm a8 K (.ext x i) st:=by
 simp only[XE]at h;split at h
 ·rename_i vs e
  obtain ⟨h1,h2,h3⟩:=pC (σ:=σ) h;refine BU.val hr _ (λ C => ?_) h3;simp only[c8,hr.ev e (by intro e;cases e),H9,List.getElem?_map,qV vs i h1,Option.map_some,h2]
 ·exact h.elim
theorem Ug {x:AP} (hr:RX σ tm M st) (h:XE L tm M a8 K (.len x)):BU L tm a8 K (.len x) st:=by
 simp only[XE]at h;split at h
 ·rename_i q es e
  exact BU.val hr _ (λ C=>by simp only[c8,hr.ev e (by intro e;cases e),HI,K6];rfl) h.h
 ·rename_i e
  exact BU.val hr _ (λ C=>by simp only[c8,hr.ev e (by intro e;cases e),FB,K6];rfl) h
 ·rename_i e
  exact BU.val hr _ (λ C=>by simp only[c8,hr.ev e (by intro e;cases e),DL,K6];rfl) h
 ·exact h.elim
theorem rU {mx:Bool} {k:IntKind} {K:AV->Prop} : ∀ {l:List AV} {a:Int},RI mx k K a l -> ∃ n,J4 mx (.int k a) l=some (.int k n)/\K (.int k n)/\(∀ v∈l,v ≠ .any/\BG σ v=v)
 | [],a,h=>⟨a,rfl,h,λ v hv=>by cases hv⟩
 | v::r,a,h=>by
  cases v with
  | int k' b =>
   have h:(bif mx then AF (a<b) (b<=a) (RI mx k K b r) (RI mx k K a r) else AF (b<a) (a<=b) (RI mx k K b r) (RI mx k K a r)):=h;have fin : ∀ c:Int,O8 mx (.int k a) (.int k' b)=some (.int k c)->RI mx k K c r -> ∃ n,J4 mx (.int k a) (.int k' b::r)=some (.int k n)/\K (.int k n)/\(∀ v∈AV.int k' b::r,v ≠ .any/\BG σ v=v):=by
    intro c hc hx;obtain ⟨n,h1,h2,h3⟩:=rU hx;refine ⟨n,by simp only[J4,hc,h1],h2,λ v hv => ?_⟩;rcases List.mem_cons.1 hv with rfl|hv
    ·exact ⟨(by intro e;cases e),rfl⟩
    ·exact h3 v hv
   cases mx
   ·simp only[cond_false]at h
    by_cases hc:b<a
    ·exact fin b (by simp [O8,hc]) (h.1 hc)
    ·exact fin a (by simp [O8,hc]) (h.2 (by omega))
   ·simp only[cond_true]at h
    by_cases hc:a<b
    ·exact fin b (by simp [O8,hc]) (h.1 hc)
    ·exact fin a (by simp [O8,hc]) (h.2 (by omega))
  | _=>exact (h:False).elim
theorem Se {mx:Bool} {xs:List AP} (hr:RX σ tm M st) (h:XE L tm M a8 K (.mm mx xs)):BU L tm a8 K (.mm mx xs) st:=by
 simp only[XE]at h;split at h
 ·rename_i k a r e
  obtain ⟨n,h1,h2,h3⟩:=rU (σ:=σ) h;refine BU.val hr (.int k n) (λ C => ?_) h2;have hx : ∀ v∈P1 tm xs,v ≠ .any:=by
   rw[e];intro v hv;rcases List.mem_cons.1 hv with rfl|hv
   ·intro e;cases e
   ·exact (h3 v hv).1
  have hm:(P1 tm xs).map (BG σ) = .int k a::r:=by
   rw[e,List.map_cons];congr 1;conv=>rhs;rw[<-List.map_id r]
   exact List.map_congr_left λ v hv=>(h3 v hv).2
  simp only[c8];rw[show xs.map st.ev = .int k a::r from (evL hr hx).trans hm];simp only[h1,Option.map_some,GW]
 ·exact h.elim
theorem AgO (hr:RX σ tm M st) {k t:Nat} {K:Nat->List (List AV)->Prop} (h:gK M k t K) : ∃ z es,(st.own (σ k t).1).c7 (σ k t).2=some ⟨z,es⟩/\K z es:=by
 unfold gK at h;split at h
 ·rename_i s c hm
  split at h
  ·split at h
   ·exact ⟨_,_,hr.sat.c7 _ _ _ (D6 hm),h⟩
   ·exact h.elim
  ·rename_i i
   split at h
   ·rename_i rows
    obtain ⟨z,es,g,h⟩:=h;exact ⟨z,es,hr.sat.c7 k (i+1) (.rw z es) (by simp [a7,hm,g]),h⟩
   ·exact h.elim
 ·exact h.elim
theorem Aho {own k6:AH} {s t i j:Nat} {vs:List AV} (h:own.ko s t i j vs=some k6):own.put s (k6 s)=k6:=by
 unfold AH.ko at h;cases hg:own.get s t with
 | none=>simp [hg]at h
 | some b =>
  simp only[hg]at h;cases he:b.es[i]? with
  | none=>simp [he]at h
  | some cs =>
   simp only[he]at h;split at h
   ·obtain rfl:=Option.some.inj h
    rw[AH.g7]
   ·cases h
theorem Sk {s n:Nat} {x v:AP} (hr:RX σ tm M st) (h:XE L tm M a8 K (.mq s n x v)):BU L tm a8 K (.mq s n x v) st:=by
 simp only[XE]at h;split at h
 ·rename_i key i j e1
  split at h
  ·rename_i s' c hm
   cases hb:Nat.beq s' s<;>simp only[hb,cond_true,cond_false]at h;obtain rfl:=BQ.1 hb;have ff:=hr.sat.site _ _ _ hm;obtain ⟨E,σ',v',M',h1,h2,h3,h4⟩:=kA (a8:=a8) (L:=L) hr (show XE L tm M a8 K (.st n x v) from h);have w4:=hr.ev e1 (by intro e;cases e);rw[D8,ff]at w4;have key : ∀ vs,cellsOf (st.ev v)=some vs->vs.length=n -> ∃ o',st.own.ko s' (σ key 0).2 i j vs=some o'/\E = .ct (.e6 []) o':=λ vs gm hn=>by
    have:=h1 0
    simp only[c8,w4,gm]at this;rw[if_pos hn,Option.map_eq_some_iff]at this;obtain ⟨o',a1,a2⟩:=this;exact ⟨o',a1,a2.symm⟩
   cases gm:cellsOf (st.ev v) with
   | none=>have:=h1 0;simp [c8,w4,gm]at this
   | some vs =>
    by_cases hn:vs.length=n
    ·obtain ⟨o',a1,rfl⟩:=key vs gm hn
     refine ⟨.m7 s' (o' s'),σ',v',M',λ C => ?_,h2,h3,?_⟩
     ·simp only[c8,w4,gm]
      rw[if_pos ⟨trivial,hn⟩,a1];rfl
     ·have e2:(B9.res st.own (.m7 s' (o' s'))).2=o':=Aho a1
      rw[e2];exact h4
    ·have:=h1 0
     simp only[c8,w4,gm]at this;rw[if_neg hn]at this;cases this
  ·exact h.elim
 ·exact h.elim
theorem Ue {ne:Bool} {x:AP} (hr:RX σ tm M st) (h:XE L tm M a8 K (.ta ne x)):BU L tm a8 K (.ta ne x) st:=by
 simp only[XE]at h;split at h
 ·rename_i e1
  rw[P2]at h;exact BU.val hr _ (λ C=>by simp only[c8,hr.ev e1 (by intro e;cases e),FB,GV]) h
 ·rename_i b e1
  rw[P2]at h;exact BU.val hr _ (λ C=>by simp only[c8,hr.ev e1 (by intro e;cases e),AgP,GV]) h
 ·rename_i q es e1
  obtain ⟨h0,h⟩:=h;rw[P2]at h;cases es with
  | nil=>exact absurd rfl h0
  | cons e es=>exact BU.val hr _ (λ C=>by simp only[c8,hr.ev e1 (by intro e;cases e),HI,GV]) h
 ·rename_i s t z o n e1
  obtain ⟨h0,h⟩:=h;rw[P2]at h;cases n with
  | zero=>exact absurd h0 (by omega)
  | succ n=>exact BU.val hr _ (λ C=>by simp only[c8,hr.ev e1 (by intro e;cases e),DL,GV]) h
 ·exact h.elim
theorem Sg {x:AP} (hr:RX σ tm M st) (h:XE L tm M a8 K (.mn x)):BU L tm a8 K (.mn x) st:=by
 simp only[XE]at h;split at h
 ·rename_i key t i j e
  exact BU.val hr _ (λ C=>by simp only[c8,hr.ev e (by intro e;cases e),D8]) h
 ·exact h.elim
theorem Tw {x:AP} (hr:RX σ tm M st) (h:XE L tm M a8 K (.eg x)):BU L tm a8 K (.eg x) st:=by
 simp only[XE]at h;split at h
 ·rename_i e
  exact BU.val hr _ (λ C=>by simp only[c8,hr.ev e (by intro e;cases e),FB];rfl) h
 ·exact h.elim
theorem Tq {s z bytes:Nat} {x y:AP} (hr:RX σ tm M st) (h:XE L tm M a8 K (.oa s z bytes x y)):BU L tm a8 K (.oa s z bytes x y) st:=by
 simp only[XE]at h;split at h
 ·rename_i k n e1 e2
  cases gp:EQ s<;>simp only[gp,cond_true,cond_false]at h;obtain ⟨⟨g1,g2,g3⟩,h⟩:=h;obtain ⟨k,h1,h2,h3⟩:=HL h;refine ⟨.new s ⟨z,[]⟩ (λ t => .row s t z 0 n.toNat),_,_,_,λ C => ?_,h3,?_,hr.gy h1 h2 (.rw z []) trivial rfl (λ_=>gp)⟩
  ·simp only[c8,hr.ev e1 (by intro e;cases e),hr.ev e2 (by intro e;cases e),GW,FB]
   rw[if_pos ⟨g1,g2,g3⟩]
  ·simp only[B9.res,DL,BR]
 ·exact h.elim
theorem Si {tb:List Nat} {x:AP} (hr:RX σ tm M st) (h:XE L tm M a8 K (.gf tb x)):BU L tm a8 K (.gf tb x) st:=by
 simp only[XE]at h;split at h
 ·rename_i k n e1
  obtain ⟨h0,v,h1,h2⟩:=h;exact BU.val hr _ (λ C=>by simp only[c8,hr.ev e1 (by intro e;cases e),GW,h1];rw[if_pos h0]) h2
 ·exact h.elim
theorem Aea {v:AV} {K:AV->Prop} (h:fF v K):v ≠ .any/\GH (BG σ v)=some (A7 σ v)/\K v:=by
 cases v<;>first|exact (h:False).elim|exact ⟨(by intro e;cases e),rfl,h⟩
theorem sP (hr:RX σ tm M st) : ∀ {l:List AP} {K:List AV->Prop},fE tm l K -> ∃ cs,l.mapM (λ x=>GH (st.ev x))=some (cs.map (A7 σ))/\K cs
 | [],K,h=>⟨[],rfl,h⟩
 | x::r,K,h=>by
  obtain ⟨h0,hc,h⟩:=Aea (σ:=σ) (show fF (ex tm x) λ v=>fE tm r λ cs=>K (v::cs) from h);obtain ⟨cs,h1,h2⟩:=sP hr h;refine ⟨ex tm x::cs,?_,h2⟩;rw[List.mapM_cons,h1,hr.ev rfl h0,hc];rfl
theorem Sd {p:Bool} {f:Nat} {xs:List AP} (hr:RX σ tm M st) (h:XE L tm M a8 K (.pz p f xs)):BU L tm a8 K (.pz p f xs) st:=by
 simp only[XE]at h;obtain ⟨cs,h1,h2⟩:=sP hr h;exact BU.val hr _ (λ C=>by simp only[c8,h1,Option.map_some,ZO,List.isEmpty_map];rfl) h2
theorem Xw (hr:RX σ tm M st) {v:AV} {K:List (List AV)->Prop} (h:X2 M v K):v ≠ .any /\ ∃ es,EP st.own (BG σ v)=some es/\K es:=by
 cases v with
 | sl q es=>exact ⟨(by intro e;cases e),_,rfl,h⟩
 | nil=>exact ⟨(by intro e;cases e),_,rfl,h⟩
 | bj v =>
  cases v with
  | bool b=>exact ⟨(by intro e;cases e),_,rfl,h⟩
  | _=>exact (h:False).elim
 | row key t z off len =>
  simp only[X2]at h;obtain ⟨z',es,g,h⟩:=AgO hr h;cases hz:Nat.beq z z'<;>simp only[hz,cond_true,cond_false]at h;obtain rfl:=BQ.1 hz;refine ⟨(by intro e;cases e),_,?_,h.2⟩;simp only[DL,EP,AH.get,g];rw[if_pos ⟨h.1,trivial⟩]
 | _=>exact (h:False).elim
theorem fG (hr:RX σ tm M st) {o:Option AP} {K:Option Int->Prop} (h:YZ tm o K):(o=none/\K none) \/ ∃ x k n,o=some x/\st.ev x = .int k n/\K (some n):=by
 unfold YZ at h;split at h
 ·exact Or.inl ⟨rfl,h⟩
 ·split at h
  ·rename_i e
   exact Or.inr ⟨_,_,_,rfl,hr.ev e (by intro e;cases e),h⟩
  ·exact h.elim
theorem Sj {z:Nat} {x:AP} {lo hi:Option AP} (hr:RX σ tm M st) (h:XE L tm M a8 K (.fk z x lo hi)):BU L tm a8 K (.fk z x lo hi) st:=by
 simp only[XE]at h;have go : ∀ (a b:Option Int),(match ex tm x with
   | .sl l es=>CD z es a b λ es=>K (.sl l es) M
   | .row key t z' off len=>bif Nat.beq z' z then BW a b len λ a h=>K (.row key t z (off+a) (h-a)) M else False
   | .nil=>(match a,b with
    | none,none=>K .nil M
    | some a,none=>AQ (a=0) (K .nil M)
    | none,some h=>AQ (h=0) (K .nil M)
    | some a,some h=>AQ (a=0/\h=0) (K .nil M))
   | _=>False)->(lo=none/\a=none \/ ∃ y k n,lo=some y/\st.ev y = .int k n/\a=some n)->(hi=none/\b=none \/ ∃ y k n,hi=some y/\st.ev y = .int k n/\b=some n)->BU L tm a8 K (.fk z x lo hi) st:=by
  intro a b h ha hb;split at h
  ·rename_i q es e
   obtain ⟨g1,a',h',g2,g3,g4,h⟩:=h;refine BU.val hr _ (λ C => ?_) h;rcases ha with ⟨rfl,rfl⟩|⟨y,k,n,rfl,e1,rfl⟩<;>rcases hb with ⟨rfl,rfl⟩|⟨y',k',n',rfl,e2,rfl⟩<;>try simp only at g2 g3<;>simp only[c8,hr.ev e (by intro e;cases e),HI, *]<;>simp_all
  ·rename_i key t z' off len e
   cases hz:Nat.beq z' z<;>simp only[hz,cond_true,cond_false]at h;obtain rfl:=BQ.1 hz;obtain ⟨a',h',g2,g3,g4,h⟩:=h;refine BU.val hr _ (λ C => ?_) h;rcases ha with ⟨rfl,rfl⟩|⟨y,k,n,rfl,e1,rfl⟩<;>rcases hb with ⟨rfl,rfl⟩|⟨y',k',n',rfl,e2,rfl⟩<;>try simp only at g2 g3<;>simp only[c8,hr.ev e (by intro e;cases e),DL, *]<;>simp_all
  ·rename_i e
   rcases ha with ⟨rfl,rfl⟩|⟨y,k,n,rfl,e1,rfl⟩<;>rcases hb with ⟨rfl,rfl⟩|⟨y',k',n',rfl,e2,rfl⟩<;>simp only at h
   ·exact BU.val hr .nil (λ C=>by simp only[c8,hr.ev e (by intro e;cases e),FB]) h
   ·exact BU.val hr .nil (λ C=>by simp only[c8,hr.ev e (by intro e;cases e),FB,e2,h.1,if_true]) h.2
   ·exact BU.val hr .nil (λ C=>by simp only[c8,hr.ev e (by intro e;cases e),FB,e1,h.1,if_true]) h.2
   ·exact BU.val hr .nil (λ C=>by simp only[c8,hr.ev e (by intro e;cases e),FB,e1,e2,h.1.1,h.1.2,if_true]) h.2
  ·exact h.elim
 rcases fG hr h with ⟨h1,h⟩|⟨y,k,n,h1,h2,h⟩
 ·rcases fG hr h with ⟨g1,h⟩|⟨y,k,n,g1,g2,h⟩
  ·exact go _ _ h (Or.inl ⟨h1,rfl⟩) (Or.inl ⟨g1,rfl⟩)
  ·exact go _ _ h (Or.inl ⟨h1,rfl⟩) (Or.inr ⟨_,_,_,g1,g2,rfl⟩)
 ·rcases fG hr h with ⟨g1,h⟩|⟨y',k',n',g1,g2,h⟩
  ·exact go _ _ h (Or.inr ⟨_,_,_,h1,h2,rfl⟩) (Or.inl ⟨g1,rfl⟩)
  ·exact go _ _ h (Or.inr ⟨_,_,_,h1,h2,rfl⟩) (Or.inr ⟨_,_,_,g1,g2,rfl⟩)
theorem gG {s key:Nat} : ∀ {M:Mem},GK s M=false->GK s (m9 key M)=false
 | [],_=>rfl
 | (i,s0,c0)::r,h=>by
  simp only[GK]at h;cases q0:Nat.beq s i<;>simp only[q0,cond_true,cond_false]at h
  ·cases q1:HG s c0<;>simp only[q1,cond_true,cond_false]at h
   ·simp only[m9]
    cases Nat.beq key i
    ·simp only[cond_false,GK,q0,q1,gG h]
    ·simp only[cond_true,gG h]
   ·cases h
  ·cases h
theorem Tp {s z bytes:Nat} {x y:AP} (hr:RX σ tm M st) (h:X2 M (ex tm y) λ ys=>match ex tm x with
   | .row key 0 z' off len=>bif Nat.beq off 0 then bif Nat.beq z' z then (match b7 M key with
    | some (s',.rw mr es)=>bif Nat.beq mr z then fM (m9 key M) λ M'=>(B3 es len ys z bytes λ es' n=>GA s tm M λ k=>K (.row k 0 z 0 n) ((k,s',.rw z es')::M')) else False
    | _=>False) else False else False
   | .row key (i+1) z' off len=>bif Nat.beq off 0 then bif Nat.beq z' z then (match b7 M key with
    | some (sk,.mx rows)=>fM (m9 key M) λ M'=>BN rows i λ mr es=>bif Nat.beq mr z then (B3 es len ys z bytes λ es' n => ∀ s' v,GA s tm M λ k=>K (.row k 0 z 0 n) ((k,s',.rw z es')::(key,sk,.hx i v (rows.set i none))::M')) else False
    | _=>False) else False else False
   | .nil=>bif EQ s then CE ys z bytes λ es n=>GA s tm M λ k=>K (.row k 0 z 0 n) ((k,s,.rw z es)::M) else False
   | _=>False):BU L tm a8 K (.app s z bytes x y) st:=by
 obtain ⟨h0,ys,hy,h⟩:=Xw hr h;have Cs:EP st.own (st.ev y)=some ys:=by rw[hr.ev rfl h0];exact hy
 split at h
 ·rename_i key z' off len e
  cases ho:Nat.beq off 0<;>simp only[ho,cond_true,cond_false]at h;cases hz:Nat.beq z' z<;>simp only[hz,cond_true,cond_false]at h;obtain rfl:=BQ.1 ho;obtain rfl:=BQ.1 hz;split at h
  ·rename_i s' mr es hm
   cases nu:Nat.beq mr z'<;>simp only[nu,cond_true,cond_false]at h;obtain rfl:=BQ.1 nu;rw[O3]at h;obtain ⟨g1,g2,g3,g4,h⟩:=h;obtain ⟨k,h1,h2,h3⟩:=HL h;have hs:=hr.sat.site _ _ _ hm;have y9:=hr.sat.c7 _ _ _ (D6 hm);have hn:=(hr.kill hm).gy (s:=k) (q:=s') (gG h1) h2 (.rw mr (es.take len++ys)) trivial rfl (λ_=>by have:=hr.sat.low _ _ _ (D6 hm) rfl;rwa [hs]at this);have Jg:(st.own.put s' ((st.own s').m7 (σ key 0).2 none)).e8 s'=st.own.e8 s':=by simp [AH.e8,AH.g7,CB.m7]
   simp only[AH.g7,AH.qz,Jg]at hn;refine ⟨.ct (.row s' (st.own.e8 s') mr 0 (len+ys.length)) (st.own.put s' (((st.own s').m7 (σ key 0).2 none).new ⟨mr,es.take len++ys⟩)),_,_,_,λ C => ?_,h3,?_,hn⟩
   ·rw[hs]at y9
    simp only[c8,Cs,hr.ev e (by intro e;cases e),DL,AH.get,hs,y9,A8.c7];rw[if_pos g2,if_pos ⟨trivial,trivial,g1,g3,g4⟩]
   ·simp only[B9.res,DL,BR]
  ·exact h.elim
 ·rename_i key i z' off len e
  cases ho:Nat.beq off 0<;>simp only[ho,cond_true,cond_false]at h;cases hz:Nat.beq z' z<;>simp only[hz,cond_true,cond_false]at h;obtain rfl:=BQ.1 ho;obtain rfl:=BQ.1 hz;split at h
  ·rename_i sk rows hm
   rw[O3]at h;obtain ⟨mr,es,g0,h⟩:=h;cases nu:Nat.beq mr z'<;>simp only[nu,cond_true,cond_false]at h;obtain rfl:=BQ.1 nu;obtain ⟨g1,g2,g3,g4,h⟩:=h;have h:=h (σ key (i+1)).1 (.row (σ key (i+1)).1 (σ key (i+1)).2 mr 0 es.length);obtain ⟨k,h1,h2,h3⟩:=HL h;have y9:=hr.sat.c7 key (i+1) (.rw mr es) (by simp [a7,hm,g0]);have hn:=hr.Iy (s:=k) (es':=es.take len++ys) hm g0 h1 h2;refine ⟨.ct (.row (σ key (i+1)).1 (st.own.e8 (σ key (i+1)).1) mr 0 (len+ys.length)) (st.own.put (σ key (i+1)).1 (((st.own (σ key (i+1)).1).m7 (σ key (i+1)).2 none).new ⟨mr,es.take len++ys⟩)),_,_,_,λ C => ?_,h3,?_,hn⟩
   ·simp only[c8,Cs,hr.ev e (by intro e;cases e),DL,AH.get,y9,A8.c7]
    rw[if_pos g2,if_pos ⟨trivial,trivial,g1,g3,g4⟩]
   ·simp only[B9.res,DL,BR]
  ·exact h.elim
 ·rename_i e
  cases gp:EQ s<;>simp only[gp,cond_true,cond_false]at h;obtain ⟨g2,g3,g4,h⟩:=h;obtain ⟨k,h1,h2,h3⟩:=HL h;refine ⟨.ct (.row s (st.own.e8 s) z 0 ys.length) (st.own.put s ((st.own s).new ⟨z,ys⟩)),_,_,_,λ C => ?_,h3,?_,hr.gy h1 h2 (.rw z ys) trivial rfl (λ_=>gp)⟩
  ·simp only[c8,Cs,hr.ev e (by intro e;cases e),FB]
   rw[if_pos g2,if_pos ⟨g3,g4⟩]
  ·simp only[B9.res,DL,BR]
 ·exact h.elim
theorem Sw {v:AV} {ky k2 z n:Nat} (h:QU M v=some (ky,some (k2,z,n))):v = .row ky 0 1 0 1 /\ ∃ sy,b7 M ky=some (sy,.bs 1 [[.row k2 0 z 0 n]]):=by
 unfold QU at h;split at h
 ·split at h
  ·rename_i hm
   simp only[Option.some.injEq,Prod.mk.injEq]at h;obtain ⟨rfl,rfl,rfl,rfl⟩:=h;exact ⟨rfl,_,hm⟩
  ·simp at h
  ·cases h
 ·cases h
theorem Sv {v:AV} {ky:Nat} (h:QU M v=some (ky,none)):v = .row ky 0 1 0 1 /\ ∃ sy,b7 M ky=some (sy,.rw 1 [[.nil]]):=by
 unfold QU at h;split at h
 ·split at h
  ·simp at h
  ·rename_i hm
   simp only[Option.some.injEq,Prod.mk.injEq,and_true]at h;subst h;exact ⟨rfl,_,hm⟩
  ·cases h
 ·cases h
theorem To {s z bytes:Nat} {x y:AP} (hr:RX σ tm M st) (h:XE L tm M a8 K (.app s z bytes x y)):BU L tm a8 K (.app s z bytes x y) st:=by
 simp only[XE]at h;cases hV:Nat.ble 800000 s<;>simp only[hV,cond_true,cond_false]at h;split at h
 ·rename_i ky k2 z2 n2 Bf
  obtain ⟨pq,sy,xp⟩:=Sw Bf;have ki:=hr.sat.site _ _ _ xp;have ri:=hr.sat.c7 _ _ _ (D6 xp);rw[ki]at ri
  have Hf:EP st.own (st.ev y)=some [[.row (σ k2 0).1 (σ k2 0).2 z2 0 n2]]:=by
   rw[hr.ev pq (by intro e;cases e)];simp only[DL,EP,AH.get,ki,ri,A8.c7,A7,List.map_cons,List.map_nil,List.length_cons,List.length_nil];simp
  split at h
  ·rename_i key z' off len e
   cases ho:Nat.beq off 0<;>simp only[ho,cond_true,cond_false]at h;cases hz:Nat.beq z' 1<;>simp only[hz,cond_true,cond_false]at h;cases ij:Nat.beq z 1<;>simp only[ij,cond_true,cond_false]at h;cases ig:Nat.beq key k2<;>simp only[ig,cond_true,cond_false]at h;cases Dj:Nat.beq key ky<;>simp only[Dj,cond_true,cond_false]at h;cases hk3:Nat.beq k2 ky<;>simp only[hk3,cond_true,cond_false]at h;obtain rfl:=BQ.1 ho;obtain rfl:=BQ.1 hz;obtain rfl:=BQ.1 ij;split at h
   ·rename_i s2 z3 es dv
    cases Af:Nat.beq z2 z3<;>simp only[Af,cond_true,cond_false]at h;obtain rfl:=BQ.1 Af;split at h
    ·rename_i s' rows hm
     rw[O3]at h;obtain ⟨rfl,rfl,g3,g4,h⟩:=h;obtain ⟨k,h1,h2,h3⟩:=HL h;have hs:=hr.sat.site _ _ _ hm;have y9:=hr.sat.c7 _ _ _ (D6 hm);rw[hs]at y9;refine ⟨.ct (.row s' (st.own.e8 s') 1 0 (rows.length+1)) (st.own.put s' (((st.own s').m7 (σ key 0).2 none).new ⟨1,B6 σ key 0 rows++[[.row (σ k2 0).1 (σ k2 0).2 z2 0 es.length]]⟩)),_,_,_,λ C => ?_,h3,?_,hr.Iz (ky:=ky) hm dv (E7.1 ig) h1 h2⟩
     ·simp only[c8,Hf,hr.ev e (by intro e;cases e),DL,AH.get,hs,y9,A8.c7]
      rw[if_pos (by simp),if_pos ⟨trivial,trivial,by rw[E3];exact Nat.le_refl _,by simpa using g3,by simpa using g4⟩];rw[zT (by rw[E3];exact Nat.le_refl _)];rfl
     ·simp only[B9.res,DL,BR]
    ·exact h.elim
   ·exact h.elim
  ·rename_i e
   cases gp:EQ s<;>simp only[gp,cond_true,cond_false]at h;cases ij:Nat.beq z 1<;>simp only[ij,cond_true,cond_false]at h;obtain rfl:=BQ.1 ij;split at h
   ·rename_i s2 z3 es dv
    cases Af:Nat.beq z2 z3<;>simp only[Af,cond_true,cond_false]at h;obtain rfl:=BQ.1 Af;rw[O3]at h;obtain ⟨⟨rfl,g3⟩,h⟩:=h;obtain ⟨k,h1,h2,h3⟩:=HL h;obtain ⟨σ',q1,q2⟩:=hr.Nm (q:=s) dv (λ e=>(RQ h1 _ _ _ dv).1 e.symm) h1 h2 gp;refine ⟨.ct (.row s (st.own.e8 s) 1 0 1) (st.own.put s ((st.own s).new ⟨1,[[.row (σ k2 0).1 (σ k2 0).2 z2 0 es.length]]⟩)),σ',_,_,λ C => ?_,h3,?_,q2⟩
    ·simp only[c8,Hf,hr.ev e (by intro e;cases e),FB]
     rw[if_pos (by simp),if_pos ⟨by simpa [EK] using g3,by simp⟩];rfl
    ·simp only[B9.res,DL,q1]
   ·exact h.elim
  ·exact h.elim
 ·rename_i ky Bf
  obtain ⟨pq,sy,xp⟩:=Sv Bf;have ki:=hr.sat.site _ _ _ xp;have ri:=hr.sat.c7 _ _ _ (D6 xp);rw[ki]at ri
  have Hf:EP st.own (st.ev y)=some [[.nil]]:=by
   rw[hr.ev pq (by intro e;cases e)];simp only[DL,EP,AH.get,ki,ri,A8.c7,List.length_cons,List.length_nil];simp
  split at h
  ·rename_i key z' off len e
   cases ho:Nat.beq off 0<;>simp only[ho,cond_true,cond_false]at h;cases hz:Nat.beq z' 1<;>simp only[hz,cond_true,cond_false]at h;cases ij:Nat.beq z 1<;>simp only[ij,cond_true,cond_false]at h;cases Dj:Nat.beq key ky<;>simp only[Dj,cond_true,cond_false]at h;obtain rfl:=BQ.1 ho;obtain rfl:=BQ.1 hz;obtain rfl:=BQ.1 ij;split at h
   ·rename_i s' rows hm
    rw[O3]at h;obtain ⟨rfl,g3,g4,h⟩:=h;obtain ⟨k,h1,h2,h3⟩:=HL h;have hs:=hr.sat.site _ _ _ hm;have y9:=hr.sat.c7 _ _ _ (D6 hm);rw[hs]at y9;refine ⟨.ct (.row s' (st.own.e8 s') 1 0 (rows.length+1)) (st.own.put s' (((st.own s').m7 (σ key 0).2 none).new ⟨1,B6 σ key 0 rows++[[.nil]]⟩)),_,_,_,λ C => ?_,h3,?_,hr.Ja hm h1 h2⟩
    ·simp only[c8,Hf,hr.ev e (by intro e;cases e),DL,AH.get,hs,y9,A8.c7]
     rw[if_pos (by simp),if_pos ⟨trivial,trivial,by rw[E3];exact Nat.le_refl _,by simpa using g3,by simpa using g4⟩];rw[zT (by rw[E3];exact Nat.le_refl _)];rfl
    ·simp only[B9.res,DL,BR]
   ·exact h.elim
  ·rename_i e
   cases gp:EQ s<;>simp only[gp,cond_true,cond_false]at h;cases ij:Nat.beq z 1<;>simp only[ij,cond_true,cond_false]at h;obtain rfl:=BQ.1 ij;obtain ⟨g3,h⟩:=h;obtain ⟨k,h1,h2,h3⟩:=HL h;have jy:A8.flat (.mx [none]):=by
    intro i x hx;cases i with
    | zero=>simp at hx
    | succ i=>simp at hx
   refine ⟨.ct (.row s (st.own.e8 s) 1 0 1) (st.own.put s ((st.own s).new ⟨1,[[.nil]]⟩)),_,_,_,λ C => ?_,h3,?_,hr.gy h1 h2 (.mx [none]) jy rfl (λ_=>gp)⟩
   ·simp only[c8,Hf,hr.ev e (by intro e;cases e),FB]
    rw[if_pos (by simp),if_pos ⟨by simpa [EK] using g3,by simp⟩];rfl
   ·simp only[B9.res,DL,BR]
  ·exact h.elim
 ·exact Tp hr h
end
end Go.b8
