/-
  The walk by computation is sound.
-/
import Derived.Test.YtekdjalmkdjplaaGreatB5
set_option linter.unusedSimpArgs false
set_option linter.unusedVariables false
set_option linter.unnecessarySimpa false
namespace Go.c8
theorem BI {a b:Nat}:Nat.beq a b=true↔a=b:=⟨Nat.eq_of_beq_eq_true,λ h=>by subst h;simp⟩
theorem EL {a b:Nat}:Nat.beq a b=false↔a≠b:=by
 constructor
 ·exact Nat.ne_of_beq_eq_false
 ·intro h
  cases e:Nat.beq a b
  ·rfl
  ·exact absurd (Nat.eq_of_beq_eq_true e) h
theorem ID (j:Nat) : ∀ tm:Tm,tg tm j=c6 tm j
 | []=>rfl
 | (i,v)::r=>by
  simp only[tg,S0,ID j r];cases e:Nat.beq j i
  ·rw[if_neg (EL.1 e)];rfl
  ·rw[if_pos (BI.1 e)];rfl
theorem F7 : ∀ (l:List AV) (K:List AV->Prop),fL l K=K l
 | [],_=>rfl
 | v::r,K=>by rw[fL,F7 r]
theorem R0 : ∀ (l:Tm) (K:Tm->Prop),fT l K=K l
 | [],_=>rfl
 | (i,v)::r,K=>by rw[fT,R0 r]
theorem MO : ∀ (l:Mem) (K:Mem->Prop),fM l K=K l
 | [],_=>rfl
 | (k,s,c)::r,K=>by rw[fM,MO r]
theorem wT (n:Nat) (K:Nat->Prop):fN n K=K n:=by cases n<;>rfl
theorem WJ (m i:Nat):bit m i=m.testBit i:=by
 have h:Nat.land (Nat.shiftRight m i) 1=(m >>> i)%2:=Nat.and_one_is_mod (m >>> i);have ht:m.testBit i=decide ((m >>> i)%2=1):=by
  rw[Nat.testBit,Nat.and_comm,Nat.and_one_is_mod];rcases Nat.mod_two_eq_zero_or_one (m >>> i) with e|e<;>simp [e]
 unfold bit;rw[h,ht];rcases Nat.mod_two_eq_zero_or_one (m >>> i) with e|e<;>rw[e]<;>rfl
theorem bU (m i j:Nat):bit (Nat.lor m (Nat.shiftLeft 1 i)) j=(bit m j||decide (j=i)):=by
 rw[WJ,WJ];show (m ||| (1 <<< i)).testBit j=_;rw[Nat.testBit_or,Nat.testBit_shiftLeft];congr 1;by_cases h:j=i
 ·subst h;simp
 ·by_cases h2:j≥i
  ·obtain ⟨d,rfl⟩ : ∃ d,j=i+d+1:=⟨j-i-1,by omega⟩
   rw[show i+d+1-i=d+1 by omega,Nat.testBit_succ];simp [h]
  ·simp [h2,h]
theorem bT : ∀ (ts:List Nat) (m j:Nat),bit (mask m ts) j=(bit m j||ts.contains j)
 | [],m,j=>by simp [mask]
 | t::ts,m,j=>by
  rw[mask,bT ts,bU,List.contains_cons,Bool.or_assoc];congr 2
theorem WK (j:Nat):bit 0 j=false:=by rw[WJ];simp
theorem SY (j:Nat) : ∀ (tm:Tm) (m:Nat),tg (om m tm) j=bif bit m j then .any else tg tm j
 | [],m=>by cases bit m j<;>rfl
 | (i,v)::r,m=>by
  simp only[om];cases hb:bit m i
  ·simp only[cond_false,tg,SY j r,bU]
   cases hj:Nat.beq j i
   ·have:decide (j=i)=false:=by simpa using EL.1 hj
    simp only[cond_false,this,Bool.or_false]
   ·obtain rfl:=BI.1 hj
    simp only[cond_true,hb,cond_false]
  ·simp only[cond_true,tg,SY j r]
   cases hj:Nat.beq j i
   ·rfl
   ·obtain rfl:=BI.1 hj
    simp only[hb,cond_true]
theorem UI {v:AV} {K:AV->Prop} (h:fV v K):v ≠ .any/\K v:=by
 cases v<;>simp only[fV,F7]at h<;>first|exact h.elim|exact ⟨(by intro e;cases e),h⟩
theorem UH {v:AV} {K:List AV->Prop} (h:fC v K):v ≠ .any /\ ∃ cs,cellsOf v=some cs/\K cs:=by
 cases v<;>simp only[fC,fV,F7]at h<;>first|exact h.elim|exact ⟨(by intro e;cases e),_,rfl,h⟩
theorem NI (b:Bool) (K:Bool->Prop):fB b K=K b:=by cases b<;>rfl
theorem lT {k:Nat} {tm:Tm} {M:Mem} (h:used k tm M=false):FR k M=false/\GO k tm=false:=by
 unfold used at h;cases h1:FR k M<;>simp only[h1,cond_true,cond_false]at h
 ·exact ⟨rfl,h⟩
 ·cases h
theorem jV {tm:Tm} {M:Mem} {K:Nat->Prop} : ∀ {l:List Nat},U4 tm M l K -> ∃ k,FR k M=false/\GO k tm=false/\K k
 | [],h=>h.elim
 | k::r,h=>by
  simp only[U4]at h;cases h0:used k tm M<;>simp only[h0,cond_true,cond_false]at h
  ·exact ⟨k,(lT h0).1,(lT h0).2,h⟩
  ·exact jV h
theorem HM {s:Nat} {tm:Tm} {M:Mem} {K:Nat->Prop} (h:FU s tm M K) : ∃ k,FR k M=false/\GO k tm=false/\K k:=jV h
section
variable {σ:EJ}
def CF (σ:EJ) (k:Nat) (f:Nat->Nat × Nat):EJ:=λ j t=>if j=k then f t else σ j t
theorem B1 {k j:Nat} (f:Nat->Nat × Nat) (h:j≠k):CF σ k f j=σ j:=by funext t;simp [CF,h]
theorem BK (k:Nat) (f:Nat->Nat × Nat):CF σ k f k=f:=by funext t;simp [CF]
theorem ZX {k:Nat} {p:Nat->Nat × Nat} {v:AV} (h:LO k v=false):A0 (CF σ k p) v=A0 σ v:=by
 cases v with
 | row j t z o n=>simp only[LO]at h;simp only[A0,B1 p (EL.1 h)]
 | ptr j t a b=>simp only[LO]at h;simp only[A0,B1 p (EL.1 h)]
 | _=>rfl
theorem QU {k:Nat} {p:Nat->Nat × Nat} : ∀ {cs:List AV},HG k cs=false->cs.map (A0 (CF σ k p))=cs.map (A0 σ)
 | [],_=>rfl
 | c::r,h=>by
  simp only[HG]at h;cases h1:LO k c<;>simp only[h1,cond_true,cond_false]at h
  ·rw[List.map_cons,List.map_cons,ZX h1,QU h]
  ·cases h
theorem ZV {k:Nat} {p:Nat->Nat × Nat} : ∀ {es:List (List AV)},NT k es=false->(es.map λ cs=>cs.map (A0 (CF σ k p)))=es.map λ cs=>cs.map (A0 σ)
 | [],_=>rfl
 | c::r,h=>by
  simp only[NT]at h;cases h1:HG k c<;>simp only[h1,cond_true,cond_false]at h
  ·rw[List.map_cons,List.map_cons,QU h1,ZV h]
  ·cases h
theorem SV {k:Nat} {p:Nat->Nat × Nat} {v:AV} (h:MZ k v=false):BC (CF σ k p) v=BC σ v:=by
 cases v with
 | agg cs=>simp only[MZ]at h;simp only[BC,QU h]
 | fn p f g cs=>simp only[MZ]at h;simp only[BC,QU h]
 | row a b c d e=>exact ZX (v := .row a b c d e) h
 | ptr a b c d=>exact ZX (v := .ptr a b c d) h
 | _=>rfl
theorem lD {k:Nat} {p:Nat->Nat × Nat} : ∀ {cs:List AV},QQ k cs=false->cs.map (BC (CF σ k p))=cs.map (BC σ)
 | [],_=>rfl
 | c::r,h=>by
  simp only[QQ]at h;cases h1:MZ k c<;>simp only[h1,cond_true,cond_false]at h
  ·rw[List.map_cons,List.map_cons,SV h1,lD h]
  ·cases h
theorem VQ {k:Nat} {p:Nat->Nat × Nat} {v:AV} (h:LP k v=false):A7 (CF σ k p) v=A7 σ v:=by
 cases v with
 | e7 cs=>simp only[LP]at h;simp only[A7,lD h]
 | agg cs=>exact SV (v := .agg cs) h
 | fn p f g cs=>exact SV (v := .fn p f g cs) h
 | row a b c d e=>exact SV (v := .row a b c d e) h
 | ptr a b c d=>exact SV (v := .ptr a b c d) h
 | _=>rfl
theorem QR {k:Nat} : ∀ {tm:Tm},GO k tm=false -> ∀ j,LP k (tg tm j)=false
 | [],_,_=>rfl
 | (i,v)::r,h,j=>by
  simp only[GO]at h;cases h1:LP k v<;>simp only[h1,cond_true,cond_false]at h
  ·simp only[tg]
   cases Nat.beq j i
   ·exact QR h j
   ·exact h1
  ·cases h
theorem PA {k:Nat} : ∀ {M:Mem},FR k M=false -> ∀ j s c,b8 M j=some (s,c)->j≠k/\GN k c=false
 | [],_,_,_,_,e=>by cases e
 | (i,s0,c0)::r,h,j,s,c,e=>by
  simp only[FR]at h;cases h0:Nat.beq k i<;>simp only[h0,cond_true,cond_false]at h
  ·cases h1:GN k c0<;>simp only[h1,cond_true,cond_false]at h
   ·simp only[b8]at e
    cases h2:Nat.beq j i<;>simp only[h2,cond_true,cond_false]at e
    ·exact PA h j s c e
    ·simp only[Option.some.injEq,Prod.mk.injEq]at e
     obtain ⟨_,rfl⟩:=e;exact ⟨λ e=>EL.1 h0 (e.symm.trans (BI.1 h2)),h1⟩
   ·cases h
  ·cases h
theorem NN {σ σ':EJ} {k:Nat} : ∀ (rows:List (Option (Nat × List (List AV)))) (i:Nat),(∀ j,i<=j->σ k (j+1)=σ' k (j+1))->BU σ k i rows=BU σ' k i rows
 | [],i,h=>rfl
 | none::r,i,h=>by rw[BU,BU,NN r (i+1) λ j hj=>h j (by omega)]
 | some (z,es)::r,i,h=>by rw[BU,BU,NN r (i+1) λ j hj=>h j (by omega),h i (by omega)]
theorem FY {k:Nat} : ∀ (rows:List (Option (Nat × List (List AV)))) (i j:Nat),(BU σ k i rows)[j]? = (rows[j]?).map λ r=>match r with|none=>[.nil]|some (z,es)=>[.row (σ k (i+j+1)).1 (σ k (i+j+1)).2 z 0 es.length]
 | [],i,j=>by simp [BU]
 | none::r,i,0=>by simp [BU]
 | none::r,i,j+1=>by simp only[BU,List.getElem?_cons_succ,FY r (i+1) j];rw[show i+1+j=i+(j+1) by omega]
 | some (z,es)::r,i,0=>by simp [BU]
 | some (z,es)::r,i,j+1=>by simp only[BU,List.getElem?_cons_succ,FY r (i+1) j];rw[show i+1+j=i+(j+1) by omega]
theorem EZ {k:Nat} : ∀ (rows:List (Option (Nat × List (List AV)))) (i:Nat),(BU σ k i rows).length=rows.length
 | [],i=>rfl
 | none::r,i=>by simp [BU,EZ r]
 | some (z,es)::r,i=>by simp [BU,EZ r]
theorem TM {k j:Nat} {f:Nat->Nat × Nat} {c:A4} (h:GN k c=false) (hj:j≠k):c.c7 (CF σ k f) j=c.c7 σ j:=by
 cases c with
 | bx cs=>simp only[GN]at h;simp only[A4.c7,QU h]
 | rw z es=>rfl
 | bs z es=>simp only[GN]at h;simp only[A4.c7,ZV h]
 | mx rows=>simp only[A4.c7];rw[NN rows 0 λ i _=>by rw[B1 f hj]]
 | hx a v rows=>simp only[A4.c7];rw[NN rows 0 λ i _=>by rw[B1 f hj]]
 | vw w rows=>simp only[A4.c7];rw[NN rows 0 λ i _=>by rw[B1 f hj]]
theorem rR {v:AV} (h:lz v=true):A0 σ v=v:=by cases v<;>first|rfl|cases h
theorem HO : ∀ {cs:List AV},DB cs=true->cs.map (A0 σ)=cs
 | [],_=>rfl
 | c::r,h=>by
  simp only[DB]at h;cases h1:lz c<;>simp only[h1,cond_true,cond_false]at h
  ·cases h
  ·rw[List.map_cons,rR h1,HO h]
theorem rP {k:Nat} {v:AV} (h:lz v=true):LO k v=false:=by cases v<;>first|rfl|cases h
theorem WU {k:Nat} : ∀ {cs:List AV},DB cs=true->HG k cs=false
 | [],_=>rfl
 | c::r,h=>by
  simp only[DB]at h;cases h1:lz c<;>simp only[h1,cond_true,cond_false]at h
  ·cases h
  ·simp only[HG,rP h1,WU h,cond_false]
theorem rN (v:AV):cv v = .any\/(cv v=v/\A7 σ v=v):=by
 cases v with
 | agg cs =>
  simp only[cv];cases h:DB cs
  ·exact Or.inl rfl
  ·exact Or.inr ⟨rfl,by simp only[A7,BC,HO h]⟩
 | e7 vs=>cases vs with
  | nil=>exact Or.inr ⟨rfl,rfl⟩
  | cons=>exact Or.inl rfl
 | fn p f g cs=>cases cs with
  | nil=>exact Or.inr ⟨rfl,rfl⟩
  | cons=>exact Or.inl rfl
 | _=>first|exact Or.inl rfl|exact Or.inr ⟨rfl,rfl⟩
theorem rK {k:Nat} (v:AV):LP k (cv v)=false:=by
 cases v with
 | agg cs =>
  simp only[cv];cases h:DB cs
  ·rfl
  ·exact WU h
 | e7 vs=>cases vs<;>rfl
 | fn p f g cs=>cases cs<;>rfl
 | _=>rfl
variable {tm:Tm} {M:Mem} {st:St}
theorem RX.ev (h:RX σ tm M st) {x:AM} {v:AV} (e:ex tm x=v) (hv:v ≠ .any):st.ev x=A7 σ v:=by
 cases x with
 | t n =>
  simp only[ex]at e;rcases h.tm n with h|h
  ·exact absurd (e.symm.trans h) hv
  ·rw[e]at h;exact h
 | c u =>
  simp only[ex]at e;rcases rN (σ:=σ) u with h|⟨h,h'⟩
  ·exact absurd (e.symm.trans h) hv
  ·rw[<-e,h,h'];rfl
theorem fQ {k:Nat} (h:GO k tm=false) (x:AM):LP k (ex tm x)=false:=by
 cases x with
 | t n=>exact QR h n
 | c u=>exact rK u
theorem kB {k:Nat} {v:AV} {cs:List AV} (h:LP k v=false) (e:cellsOf v=some cs):HG k cs=false:=by
 cases v<;>simp only[cellsOf,Option.some.injEq,reduceCtorEq]at e<;>subst e<;>first|exact h|rfl|(simp only[LP,MZ]at h;simp only[HG,h,cond_false])
theorem ND {v:AV} {cs:List AV} (e:cellsOf v=some cs):cellsOf (A7 σ v)=some (cs.map (A0 σ)):=by
 cases v<;>simp only[cellsOf,Option.some.injEq,reduceCtorEq]at e<;>subst e<;>rfl
def A4.flat:A4->Prop
 | .mx rows => ∀ (i:Nat) (x:Nat × List (List AV)),rows[i]? = some (some x)->False
 | .hx _ _ _=>False
 | .vw _ _=>False
 | _=>True
theorem D6 {M:Mem} {k s:Nat} {c:A4} (h:b8 M k=some (s,c)):b7 M k 0=some c:=by simp [b7,h]
theorem HQ {M:Mem} {k t:Nat} {c:A4} (h:b7 M k t=some c) : ∃ s c0,b8 M k=some (s,c0)/\(t=0->c=c0)/\(∀ i,t=i+1 -> ∃ rows z es,((c0 = .mx rows \/ ∃ a v,c0 = .hx a v rows) \/ ∃ w,c0 = .vw w rows)/\rows[i]? = some (some (z,es))/\c = .rw z es):=by
 unfold b7 at h;cases hm:b8 M k with
 | none=>simp [hm]at h
 | some x =>
  obtain ⟨s,c0⟩:=x;simp only[hm]at h;refine ⟨s,c0,rfl,?_,?_⟩
  ·rintro rfl;exact (Option.some.inj h).symm
  ·rintro i rfl
   cases c0 with
   | mx rows =>
    simp only at h;cases hr:rows[i]? with
    | none=>simp [hr]at h
    | some r =>
     cases r with
     | none=>simp [hr]at h
     | some ze=>obtain ⟨z,es⟩:=ze;simp only[hr,Option.some.injEq]at h;exact ⟨rows,z,es,Or.inl (Or.inl rfl),hr,h.symm⟩
   | hx a v rows =>
    simp only at h;cases hr:rows[i]? with
    | none=>simp [hr]at h
    | some r =>
     cases r with
     | none=>simp [hr]at h
     | some ze=>obtain ⟨z,es⟩:=ze;simp only[hr,Option.some.injEq]at h;exact ⟨rows,z,es,Or.inl (Or.inr ⟨a,v,rfl⟩),hr,h.symm⟩
   | vw w rows =>
    simp only at h;cases hr:rows[i]? with
    | none=>simp [hr]at h
    | some r =>
     cases r with
     | none=>simp [hr]at h
     | some ze=>obtain ⟨z,es⟩:=ze;simp only[hr,Option.some.injEq]at h;exact ⟨rows,z,es,Or.inr ⟨w,rfl⟩,hr,h.symm⟩
   | _=>simp at h
theorem MU {M:Mem} {k s:Nat} {c:A4} {j t:Nat} (h:j≠k):b7 ((k,s,c)::M) j t=b7 M j t:=by
 simp only[b7,b8,EL.2 h,cond_false]
theorem QG {M:Mem} {k s:Nat} {c:A4}:b7 ((k,s,c)::M) k 0=some c:=by simp [b7,b8]
theorem QH {M:Mem} {k s:Nat} {c:A4} (hc:c.flat) {t:Nat} {c':A4} (h:b7 ((k,s,c)::M) k t=some c'):t=0/\c'=c:=by
 cases t with
 | zero=>rw[QG]at h;exact ⟨rfl,(Option.some.inj h).symm⟩
 | succ i =>
  simp only[b7,b8,Nat.beq_refl,cond_true]at h;cases c with
  | mx rows =>
   simp only at h;split at h
   ·rename_i z es hr
    exact (hc i (z,es) hr).elim
   ·cases h
  | hx a v rows=>exact hc.elim
  | vw w rows=>exact hc.elim
  | _=>simp at h
theorem Jp {σ σ':EJ} {k k':Nat} {rows:List (Option (Nat × List (List AV)))} (h:A4.flat (.mx rows)):BU σ k 0 rows=BU σ' k' 0 rows:=by
 apply List.ext_getElem?;intro j;rw[FY,FY];cases hr:rows[j]? with
 | none=>rfl
 | some r=>cases r with
  | none=>rfl
  | some x=>exact (h j x hr).elim
theorem RX.dc (h:RX σ tm M st) {s q:Nat} (hm:FR s M=false) (ht:GO s tm=false) (c:A4) (hf:c.flat) (hc:GN s c=false) (hl:c.fb=true->D5 q=true) :
  RX (CF σ s λ_=>(q,st.own.c9 q)) tm ((s,q,c)::M) ⟨st.tm,st.own.put q ((st.own q).new (c.c7 σ s))⟩:=by
 have Dv : ∀ j t c',b7 M j t=some c'->((st.own.put q ((st.own q).new (c.c7 σ s))) (σ j t).1).c7 (σ j t).2=(st.own (σ j t).1).c7 (σ j t).2:=by
  intro j t c' e;by_cases hs:(σ j t).1=q
  ·have ho:=h.sat.old _ _ _ e
   rw[hs]at ho ⊢;simp only[AE.g7,BO.new];rw[if_neg (by omega)]
  ·rw[AE.bm _ _ _ _ hs]
 have td : ∀ s',(st.own s').c9<=((st.own.put q ((st.own q).new (c.c7 σ s))) s').c9:=by
  intro s';by_cases hs:s'=q
  ·subst hs;simp only[AE.g7,BO.new];omega
  ·rw[AE.bm _ _ _ _ hs];exact Nat.le_refl _
 have k7 : ∀ j t c',j≠s->b7 ((s,q,c)::M) j t=some c'->b7 M j t=some c':=λ j t c' hj e=>by rwa [MU hj]at e
 have nb : ∀ j t c',b7 M j t=some c'->GN s c'=false/\j≠s:=by
  intro j t c' e;obtain ⟨s1,c0,g1,g2,g3⟩:=HQ e;obtain ⟨g4,g5⟩:=PA hm _ _ _ g1;refine ⟨?_,g4⟩;cases t with
  | zero=>rw[g2 rfl];exact g5
  | succ i=>obtain ⟨rows,z,es,_,_,rfl⟩:=g3 i rfl;rfl
 refine ⟨λ j => ?_,⟨?_,?_,?_,?_,?_⟩⟩
 ·rw[VQ (QR ht j)];exact h.tm j
 ·intro j s' c' e
  simp only[b8]at e;cases hb:Nat.beq j s<;>simp only[hb,cond_true,cond_false]at e
  ·rw[B1 _ (EL.1 hb)];exact h.sat.site _ _ _ e
  ·simp only[Option.some.injEq,Prod.mk.injEq]at e
   obtain ⟨rfl,rfl⟩:=e;rw[BI.1 hb,BK]
 ·intro j t c' e
  by_cases hj:j=s
  ·subst hj
   obtain ⟨rfl,rfl⟩:=QH hf e;have hb:c'.c7 (CF σ j λ_=>(q,st.own.c9 q)) j=c'.c7 σ j:=by
    cases c' with
    | bx cs=>simp only[GN]at hc;simp only[A4.c7,QU hc]
    | rw z es=>rfl
    | bs z es=>simp only[GN]at hc;simp only[A4.c7,ZV hc]
    | mx rows=>exact congrArg (C6.mk 1) (Jp hf)
    | hx a v rows=>exact hf.elim
    | vw w rows=>exact hf.elim
   rw[BK,hb];simp [AE.g7,BO.new,AE.c9]
  ·have e':=k7 j t c' hj e
   rw[B1 _ hj,TM (nb j t c' e').1 hj];exact (Dv j t c' e').trans (h.sat.c7 _ _ _ e')
 ·intro j t c' e
  by_cases hj:j=s
  ·subst hj
   rw[BK];simp [AE.g7,BO.new,AE.c9]
  ·have e':=k7 j t c' hj e
   rw[B1 _ hj];exact Nat.lt_of_lt_of_le (h.sat.old _ _ _ e') (td _)
 ·have fu : ∀ j t c',b7 M j t=some c'->σ j t=(q,st.own.c9 q)->False:=by
   intro j t c' e hh;have h2:=h.sat.old _ _ _ e;rw[hh]at h2;exact absurd h2 (Nat.lt_irrefl _)
  intro j t j' t' c1 c2 e1 e2 hj;by_cases h1:j=s<;>by_cases h2:j'=s
  ·subst h1;subst h2
   exact ⟨rfl,(QH hf e1).1.trans (QH hf e2).1.symm⟩
  ·subst h1
   rw[BK,B1 _ h2]at hj;exact (fu _ _ _ (k7 _ _ _ h2 e2) hj.symm).elim
  ·subst h2
   rw[BK,B1 _ h1]at hj;exact (fu _ _ _ (k7 _ _ _ h1 e1) hj).elim
  ·rw[B1 _ h1,B1 _ h2]at hj
   exact h.sat.inj _ _ _ _ _ _ (k7 _ _ _ h1 e1) (k7 _ _ _ h2 e2) hj
 ·intro j t c' e hw
  by_cases hj:j=s
  ·subst hj
   obtain ⟨rfl,rfl⟩:=QH hf e;rw[BK];exact hl hw
  ·rw[B1 _ hj];exact h.sat.low _ _ _ (k7 j t c' hj e) hw
theorem JY {k j:Nat} {x:Nat × A4} : ∀ {M:Mem},b8 (m5 k M) j=some x->j≠k/\b8 M j=some x
 | [],e=>by cases e
 | (i,s,c)::r,e=>by
  simp only[m5]at e;cases hb:Nat.beq k i<;>simp only[hb,cond_true,cond_false]at e
  ·simp only[b8]at e ⊢
   cases hj:Nat.beq j i<;>simp only[hj,cond_true,cond_false]at e ⊢
   ·exact JY e
   ·exact ⟨λ e'=>EL.1 hb (e'.symm.trans (BI.1 hj)),e⟩
  ·obtain ⟨h1,h2⟩:=JY e
   refine ⟨h1,?_⟩;simp only[b8];rw[EL.2 (λ e'=>h1 (e'.trans (BI.1 hb).symm))];exact h2
theorem QO {own:AE} {p:Nat × Nat} {x:Option C6} {q:Nat × Nat} (h:q≠p):((own.put p.1 ((own p.1).m9 p.2 x)) q.1).c7 q.2=(own q.1).c7 q.2:=by
 by_cases hs:q.1=p.1
 ·rw[hs,AE.g7]
  simp only[BO.m9];rw[if_neg (λ e=>h (Prod.ext hs e))]
 ·rw[AE.bm _ _ _ _ hs]
theorem Y0 {own:AE} {p:Nat × Nat} {x:Option C6}:((own.put p.1 ((own p.1).m9 p.2 x)) p.1).c7 p.2=x:=by simp [AE.g7,BO.m9]
theorem U5 {own:AE} {p:Nat × Nat} {x:Option C6} (s:Nat):((own.put p.1 ((own p.1).m9 p.2 x)) s).c9=(own s).c9:=by
 by_cases hs:s=p.1
 ·subst hs;rw[AE.g7];rfl
 ·rw[AE.bm _ _ _ _ hs]
theorem RX.Fb (h:RX σ tm M st) {k s:Nat} {c:A4} (e:b8 M k=some (s,c)) (hf:c.flat) (c':A4) (gd:c'.flat) (Nw:c'.fb=true->c.fb=true) :
  RX σ tm ((k,s,c')::M) ⟨st.tm,st.own.put s ((st.own s).m9 (σ k 0).2 (some (c'.c7 σ k)))⟩:=by
 have hs:=h.sat.site _ _ _ e;subst hs;have e0:=D6 e;have hg : ∀ j t c1,b7 ((k,(σ k 0).1,c')::M) j t=some c1->(j=k/\t=0/\c1=c')\/(j≠k/\b7 M j t=some c1):=by
  intro j t c1 e1;by_cases hj:j=k
  ·subst hj
   obtain ⟨rfl,rfl⟩:=QH gd e1;exact Or.inl ⟨rfl,rfl,rfl⟩
  ·rw[MU hj]at e1
   exact Or.inr ⟨hj,e1⟩
 have ns : ∀ j t c1,b7 ((k,(σ k 0).1,c')::M) j t=some c1 -> ∃ c2,b7 M j t=some c2:=by
  intro j t c1 e1;rcases hg j t c1 e1 with ⟨rfl,rfl,rfl⟩|⟨_,h2⟩
  ·exact ⟨c,e0⟩
  ·exact ⟨c1,h2⟩
 refine ⟨h.tm,⟨?_,?_,?_,?_,?_⟩⟩
 ·intro j s' c1 e1
  simp only[b8]at e1;cases hb:Nat.beq j k<;>simp only[hb,cond_true,cond_false]at e1
  ·exact h.sat.site _ _ _ e1
  ·simp only[Option.some.injEq,Prod.mk.injEq]at e1
   rw[BI.1 hb];exact e1.1
 ·intro j t c1 e1
  rcases hg j t c1 e1 with ⟨rfl,rfl,rfl⟩|⟨h1,h2⟩
  ·exact Y0
  ·refine (QO (λ he => ?_)).trans (h.sat.c7 _ _ _ h2)
   exact h1 (h.sat.inj _ _ _ _ _ _ h2 e0 he).1
 ·intro j t c1 e1
  obtain ⟨c2,e2⟩:=ns _ _ _ e1;show (σ j t).2<((st.own.put (σ k 0).1 ((st.own (σ k 0).1).m9 (σ k 0).2 (some (c'.c7 σ k)))) (σ j t).1).c9;rw[U5];exact h.sat.old _ _ _ e2
 ·intro j t j' t' c1 c2 e1 e2 hj
  obtain ⟨_,Bj⟩:=ns _ _ _ e1;obtain ⟨_,wq⟩:=ns _ _ _ e2;exact h.sat.inj _ _ _ _ _ _ Bj wq hj
 ·intro j t c1 e1 hw
  rcases hg j t c1 e1 with ⟨rfl,rfl,rfl⟩|⟨_,h2⟩
  ·exact h.sat.low _ _ _ e0 (Nw hw)
  ·exact h.sat.low _ _ _ h2 hw
theorem zZ {k t:Nat} {c:A4} (h:b7 M k (t+1)=some c):c.fb=true:=by
 obtain ⟨_,_,_,_,g3⟩:=HQ h;obtain ⟨_,_,_,_,_,rfl⟩:=g3 t rfl;rfl
theorem GL {k j t:Nat} {c:A4} (h:b7 (m5 k M) j t=some c):j≠k/\b7 M j t=some c:=by
 obtain ⟨s,c0,g1,_⟩:=HQ h;obtain ⟨h1,h2⟩:=JY g1;refine ⟨h1,?_⟩;unfold b7 at h ⊢;rw[g1]at h;rw[h2];exact h
theorem RX.kill (h:RX σ tm M st) {k s:Nat} {c:A4} (e:b8 M k=some (s,c)) :
  RX σ tm (m5 k M) ⟨st.tm,st.own.put s ((st.own s).m9 (σ k 0).2 none)⟩:=by
 have hs:=h.sat.site _ _ _ e;subst hs;have e0:=D6 e;refine ⟨h.tm,⟨?_,?_,?_,?_,?_⟩⟩
 ·intro j s' c1 e1
  exact h.sat.site _ _ _ (JY e1).2
 ·intro j t c1 e1
  obtain ⟨hj,e1⟩:=GL e1;refine (QO (λ he => ?_)).trans (h.sat.c7 _ _ _ e1);exact hj (h.sat.inj _ _ _ _ _ _ e1 e0 he).1
 ·intro j t c1 e1
  obtain ⟨hj,e1⟩:=GL e1;show (σ j t).2<((st.own.put (σ k 0).1 ((st.own (σ k 0).1).m9 (σ k 0).2 none)) (σ j t).1).c9;rw[U5];exact h.sat.old _ _ _ e1
 ·intro j t j' t' c1 c2 e1 e2 hj
  exact h.sat.inj _ _ _ _ _ _ (GL e1).2 (GL e2).2 hj
 ·intro j t c1 e1 hw
  exact h.sat.low _ _ _ (GL e1).2 hw
theorem RX.Ez (h:RX σ tm M st) {k s i z:Nat} {rows:List (Option (Nat × List (List AV)))} {es es':List (List AV)} (e:b8 M k=some (s,.mx rows)) (hr:rows[i]? = some (some (z,es))) (hl:es'.length=es.length) :
  RX σ tm ((k,s,.mx (rows.set i (some (z,es'))))::M) ⟨st.tm,st.own.put (σ k (i+1)).1 ((st.own (σ k (i+1)).1).m9 (σ k (i+1)).2 (some ⟨z,es'⟩))⟩:=by
 have e1:b7 M k (i+1)=some (.rw z es):=by simp [b7,e,hr]
 have hi:i<rows.length:=(zS hr).1;have ff:BU σ k 0 (rows.set i (some (z,es')))=BU σ k 0 rows:=by
  apply List.ext_getElem?;intro j;rw[FY,FY];by_cases hj:i=j
  ·subst hj;rw[List.getElem?_set_self hi,hr];simp [hl]
  ·rw[List.getElem?_set_ne hj]
 have hg : ∀ j t c1,b7 ((k,s,.mx (rows.set i (some (z,es'))))::M) j t=some c1->(j=k/\t=i+1/\c1 = .rw z es')\/(¬ (j=k/\t=i+1) /\ ∃ c2,b7 M j t=some c2/\c2.c7 σ j=c1.c7 σ j):=by
  intro j t c1 g;by_cases hj:j=k
  ·subst hj
   cases t with
   | zero =>
    rw[QG]at g;obtain rfl:=Option.some.inj g;exact Or.inr ⟨by omega,_,D6 e,by simp only[A4.c7,ff]⟩
   | succ t =>
    simp only[b7,b8,Nat.beq_refl,cond_true]at g;by_cases jr:i=t
    ·subst jr
     rw[List.getElem?_set_self hi]at g;exact Or.inl ⟨rfl,rfl,(Option.some.inj g).symm⟩
    ·rw[List.getElem?_set_ne jr]at g
     refine Or.inr ⟨by omega,c1,?_,rfl⟩;simp only[b7,e];exact g
  ·rw[MU hj]at g
   exact Or.inr ⟨by omega,c1,g,rfl⟩
 have ns : ∀ j t c1,b7 ((k,s,.mx (rows.set i (some (z,es'))))::M) j t=some c1 -> ∃ c2,b7 M j t=some c2:=by
  intro j t c1 g;rcases hg j t c1 g with ⟨rfl,rfl,rfl⟩|⟨_,c2,h2,_⟩
  ·exact ⟨_,e1⟩
  ·exact ⟨c2,h2⟩
 refine ⟨h.tm,⟨?_,?_,?_,?_,?_⟩⟩
 ·intro j s' c1 g
  simp only[b8]at g;cases hb:Nat.beq j k<;>simp only[hb,cond_true,cond_false]at g
  ·exact h.sat.site _ _ _ g
  ·simp only[Option.some.injEq,Prod.mk.injEq]at g
   rw[BI.1 hb,<-g.1];exact h.sat.site _ _ _ e
 ·intro j t c1 g
  rcases hg j t c1 g with ⟨rfl,rfl,rfl⟩|⟨h1,c2,h2,h3⟩
  ·exact Y0
  ·rw[<-h3]
   refine (QO (λ he => ?_)).trans (h.sat.c7 _ _ _ h2);exact h1 (h.sat.inj _ _ _ _ _ _ h2 e1 he)
 ·intro j t c1 g
  obtain ⟨c2,e2⟩:=ns _ _ _ g;show (σ j t).2<((st.own.put (σ k (i+1)).1 ((st.own (σ k (i+1)).1).m9 (σ k (i+1)).2 (some ⟨z,es'⟩))) (σ j t).1).c9;rw[U5];exact h.sat.old _ _ _ e2
 ·intro j t j' t' c1 c2 g1 g2 hj
  obtain ⟨_,Bj⟩:=ns _ _ _ g1;obtain ⟨_,wq⟩:=ns _ _ _ g2;exact h.sat.inj _ _ _ _ _ _ Bj wq hj
 ·intro j t c1 g hw
  obtain ⟨c2,e2⟩:=ns _ _ _ g;cases t with
  | zero =>
   by_cases hj:j=k
   ·subst hj;exact h.sat.low _ _ _ (D6 e) rfl
   ·rw[MU hj]at g;exact h.sat.low _ _ _ g hw
  | succ t=>exact h.sat.low _ _ _ e2 (zZ e2)
section
variable {k:Nat} {f:Nat->Nat × Nat}
theorem ZW {v:AV} (hf:f 0=σ k 0) (h:ML k v=false):A0 (CF σ k f) v=A0 σ v:=by
 cases v with
 | row j t z o n =>
  simp only[ML]at h;cases hb:Nat.beq j k
  ·simp only[A0,B1 f (EL.1 hb)]
  ·obtain rfl:=BI.1 hb
   simp only[hb,cond_true]at h;cases t with
   | zero=>simp only[A0,BK,hf]
   | succ t=>cases h
 | ptr j t a b =>
  simp only[ML]at h;cases hb:Nat.beq j k
  ·simp only[A0,B1 f (EL.1 hb)]
  ·obtain rfl:=BI.1 hb
   simp only[hb,cond_true]at h;cases t with
   | zero=>simp only[A0,BK,hf]
   | succ t=>cases h
 | _=>rfl
theorem ST (hf:f 0=σ k 0) : ∀ {cs:List AV},LZ k cs=false->cs.map (A0 (CF σ k f))=cs.map (A0 σ)
 | [],_=>rfl
 | c::r,h=>by
  simp only[LZ]at h;cases h1:ML k c<;>simp only[h1,cond_true,cond_false]at h
  ·rw[List.map_cons,List.map_cons,ZW hf h1,ST hf h]
  ·cases h
theorem lB (hf:f 0=σ k 0) : ∀ {es:List (List AV)},PW k es=false->(es.map λ cs=>cs.map (A0 (CF σ k f)))=es.map λ cs=>cs.map (A0 σ)
 | [],_=>rfl
 | c::r,h=>by
  simp only[PW]at h;cases h1:LZ k c<;>simp only[h1,cond_true,cond_false]at h
  ·rw[List.map_cons,List.map_cons,ST hf h1,lB hf h]
  ·cases h
theorem SU {v:AV} (hf:f 0=σ k 0) (h:OE k v=false):BC (CF σ k f) v=BC σ v:=by
 cases v with
 | agg cs=>simp only[OE]at h;simp only[BC,ST hf h]
 | fn p f g cs=>simp only[OE]at h;simp only[BC,ST hf h]
 | row a b c d e=>exact ZW (v := .row a b c d e) hf h
 | ptr a b c d=>exact ZW (v := .ptr a b c d) hf h
 | _=>rfl
theorem lC (hf:f 0=σ k 0) : ∀ {cs:List AV},PV k cs=false->cs.map (BC (CF σ k f))=cs.map (BC σ)
 | [],_=>rfl
 | c::r,h=>by
  simp only[PV]at h;cases h1:OE k c<;>simp only[h1,cond_true,cond_false]at h
  ·rw[List.map_cons,List.map_cons,SU hf h1,lC hf h]
  ·cases h
theorem Lm {v:AV} (hf:f 0=σ k 0) (h:NE k v=false):A7 (CF σ k f) v=A7 σ v:=by
 cases v with
 | e7 cs=>simp only[NE]at h;simp only[A7,lC hf h]
 | agg cs=>exact SU (v := .agg cs) hf h
 | fn p f g cs=>exact SU (v := .fn p f g cs) hf h
 | row a b c d e=>exact SU (v := .row a b c d e) hf h
 | ptr a b c d=>exact SU (v := .ptr a b c d) hf h
 | _=>rfl
theorem cE : ∀ {tm:Tm},L0 k tm=false -> ∀ j,NE k (tg tm j)=false
 | [],_,_=>rfl
 | (i,v)::r,h,j=>by
  simp only[L0]at h;cases h1:NE k v<;>simp only[h1,cond_true,cond_false]at h
  ·simp only[tg]
   cases Nat.beq j i
   ·exact cE h j
   ·exact h1
  ·cases h
theorem cB : ∀ {M:Mem},IM k M=false -> ∀ j s c,b8 M j=some (s,c)->MM k c=false
 | [],_,_,_,_,e=>by cases e
 | (i,s0,c0)::r,h,j,s,c,e=>by
  simp only[IM]at h;cases h1:MM k c0<;>simp only[h1,cond_true,cond_false]at h
  ·simp only[b8]at e
   cases h2:Nat.beq j i<;>simp only[h2,cond_true,cond_false]at e
   ·exact cB h j s c e
   ·simp only[Option.some.injEq,Prod.mk.injEq]at e
    obtain ⟨_,rfl⟩:=e;exact h1
  ·cases h
theorem qL {c:A4} {j:Nat} (hf:f 0=σ k 0) (h:MM k c=false) (hj:j≠k):c.c7 (CF σ k f) j=c.c7 σ j:=by
 cases c with
 | bx cs=>simp only[MM]at h;simp only[A4.c7,ST hf h]
 | rw z es=>rfl
 | bs z es=>simp only[MM]at h;simp only[A4.c7,lB hf h]
 | mx rows=>simp only[A4.c7];rw[NN rows 0 λ i _=>by rw[B1 f hj]]
 | hx a v rows=>simp only[A4.c7];rw[NN rows 0 λ i _=>by rw[B1 f hj]]
 | vw w rows=>simp only[A4.c7];rw[NN rows 0 λ i _=>by rw[B1 f hj]]
end
theorem RX.um (h:RX σ tm M st) {k k2 s s2 i z:Nat} {rows:List (Option (Nat × List (List AV)))} {es:List (List AV)} {c0:A4} (e:b8 M k=some (s,c0)) (ct:c0 = .mx rows \/ ∃ v,c0 = .hx i v rows) (e2:b8 M k2=some (s2,.rw z es)) (hk:k≠k2) (w8:L0 k tm=false) (mh:IM k M=false) (hi:i<rows.length) :
  RX (CF σ k λ t=>if t=i+1 then σ k2 0 else σ k t) tm ((k,s,.mx (rows.set i (some (z,es))))::m5 k2 M) ⟨st.tm,st.own.put s ((st.own s).m9 (σ k 0).2 (some ⟨1,(BU σ k 0 rows).set i [.row (σ k2 0).1 (σ k2 0).2 z 0 es.length]⟩))⟩:=by
 have hs:=h.sat.site _ _ _ e;subst hs;have r0:=D6 e;have r2:=D6 e2;have f0:(λ t=>if t=i+1 then σ k2 0 else σ k t) 0=σ k 0:=by simp
 have ff:BU (CF σ k λ t=>if t=i+1 then σ k2 0 else σ k t) k 0 (rows.set i (some (z,es)))=(BU σ k 0 rows).set i [.row (σ k2 0).1 (σ k2 0).2 z 0 es.length]:=by
  apply List.ext_getElem?;intro j;rw[FY,BK];by_cases hj:i=j
  ·subst hj
   rw[List.getElem?_set_self hi,List.getElem?_set_self (by rw[EZ];exact hi)];simp
  ·rw[List.getElem?_set_ne hj,List.getElem?_set_ne hj,FY]
   congr 1;funext r
   cases r with
   | none=>rfl
   | some x=>simp only[Nat.zero_add];rw[if_neg (by omega)]
 have hg : ∀ j t c,b7 ((k,(σ k 0).1,.mx (rows.set i (some (z,es))))::m5 k2 M) j t=some c ->
   (j=k/\t=0/\c = .mx (rows.set i (some (z,es))))\/(j=k/\t=i+1/\c = .rw z es)\/(j=k/\t≠0/\t≠i+1/\b7 M k t=some c)\/(j≠k/\j≠k2/\b7 M j t=some c):=by
  intro j t c g;by_cases hj:j=k
  ·subst hj
   cases t with
   | zero=>rw[QG]at g;exact Or.inl ⟨rfl,rfl,(Option.some.inj g).symm⟩
   | succ t =>
    simp only[b7,b8,Nat.beq_refl,cond_true]at g;by_cases jr:i=t
    ·subst jr
     rw[List.getElem?_set_self hi]at g;exact Or.inr (Or.inl ⟨rfl,rfl,(Option.some.inj g).symm⟩)
    ·rw[List.getElem?_set_ne jr]at g
     refine Or.inr (Or.inr (Or.inl ⟨rfl,by omega,by omega,?_⟩));rcases ct with rfl|⟨v,rfl⟩
     ·simp only[b7,e]
      exact g
     ·simp only[b7,e]
      exact g
  ·rw[MU hj]at g
   obtain ⟨g1,g2⟩:=GL g;exact Or.inr (Or.inr (Or.inr ⟨hj,g1,g2⟩))
 have Ni : ∀ j t c,b7 M j t=some c->MM k c=false:=by
  intro j t c g;obtain ⟨s1,c0,g1,g2,g3⟩:=HQ g;cases t with
  | zero=>rw[g2 rfl];exact cB mh _ _ _ g1
  | succ t=>obtain ⟨_,_,_,_,_,rfl⟩:=g3 t rfl;rfl
 refine ⟨λ j => ?_,⟨?_,?_,?_,?_,?_⟩⟩
 ·rw[Lm (f:=λ t=>if t=i+1 then σ k2 0 else σ k t) f0 (cE w8 j)];exact h.tm j
 ·intro j s' c g
  simp only[b8]at g;cases hb:Nat.beq j k<;>simp only[hb,cond_true,cond_false]at g
  ·rw[B1 _ (EL.1 hb)];exact h.sat.site _ _ _ (JY g).2
  ·simp only[Option.some.injEq,Prod.mk.injEq]at g
   rw[BI.1 hb,BK,<-g.1];simp
 ·intro j t c g
  rcases hg j t c g with ⟨rfl,rfl,rfl⟩|⟨rfl,rfl,rfl⟩|⟨rfl,h0,h1,g2⟩|⟨h0,h1,g2⟩
  ·rw[BK]
   simp only[A4.c7,ff];exact Y0
  ·rw[BK]
   simp only[if_true];exact (QO (λ he=>hk (h.sat.inj _ _ _ _ _ _ r2 r0 he).1.symm)).trans (h.sat.c7 _ _ _ r2)
  ·rw[BK]
   simp only[h1,if_false];have hb:c.c7 (CF σ j λ t=>if t=i+1 then σ k2 0 else σ j t) j=c.c7 σ j:=by
    obtain ⟨_,_,_,_,g3⟩:=HQ g2;obtain ⟨t',rfl⟩ : ∃ t',t=t'+1:=⟨t-1,by omega⟩;obtain ⟨_,_,_,_,_,rfl⟩:=g3 t' rfl;rfl
   rw[hb];exact (QO (λ he=>h0 (h.sat.inj _ _ _ _ _ _ g2 r0 he).2)).trans (h.sat.c7 _ _ _ g2)
  ·rw[B1 _ h0,qL (f:=λ t=>if t=i+1 then σ k2 0 else σ k t) f0 (Ni _ _ _ g2) h0]
   exact (QO (λ he=>h0 (h.sat.inj _ _ _ _ _ _ g2 r0 he).1)).trans (h.sat.c7 _ _ _ g2)
 ·intro j t c g
  rw[U5];rcases hg j t c g with ⟨rfl,rfl,rfl⟩|⟨rfl,rfl,rfl⟩|⟨rfl,h0,h1,g2⟩|⟨h0,h1,g2⟩
  ·rw[BK];simpa using h.sat.old _ _ _ r0
  ·rw[BK];simpa using h.sat.old _ _ _ r2
  ·rw[BK];simp only[h1,if_false];exact h.sat.old _ _ _ g2
  ·rw[B1 _ h0];exact h.sat.old _ _ _ g2
 ·-- each name is that of vz in the old memory
  have hold : ∀ j t c,b7 ((k,(σ k 0).1,.mx (rows.set i (some (z,es))))::m5 k2 M) j t=some c -> ∃ j0 t0 c0,b7 M j0 t0=some c0/\(CF σ k λ t=>if t=i+1 then σ k2 0 else σ k t) j t=σ j0 t0/\((j0=k2/\t0=0/\j=k/\t=i+1)\/(j0=j/\t0=t/\j≠k2)):=by
   intro j t c g;rcases hg j t c g with ⟨rfl,rfl,rfl⟩|⟨rfl,rfl,rfl⟩|⟨rfl,h0,h1,g2⟩|⟨h0,h1,g2⟩
   ·exact ⟨_,_,_,r0,by rw[BK];simp,Or.inr ⟨rfl,rfl,hk⟩⟩
   ·exact ⟨_,_,_,r2,by rw[BK];simp,Or.inl ⟨rfl,rfl,rfl,rfl⟩⟩
   ·exact ⟨_,_,_,g2,by rw[BK];simp [h1],Or.inr ⟨rfl,rfl,hk⟩⟩
   ·exact ⟨_,_,_,g2,by rw[B1 _ h0],Or.inr ⟨rfl,rfl,h1⟩⟩
  intro j t j' t' c c' g g' hj;obtain ⟨j0,t0,c0,a1,a2,a3⟩:=hold j t c g;obtain ⟨j1,t1,c1,b1,b2,b3⟩:=hold j' t' c' g';rw[a2,b2]at hj;obtain ⟨q1,q2⟩:=h.sat.inj _ _ _ _ _ _ a1 b1 hj;rcases a3 with ⟨x1,x2,x3,x4⟩|⟨x1,x2,x3⟩<;>rcases b3 with ⟨y1,y2,y3,y4⟩|⟨y1,y2,y3⟩
  ·exact ⟨x3.trans y3.symm,x4.trans y4.symm⟩
  ·exact absurd (y1.symm.trans (q1.symm.trans x1)) y3
  ·exact absurd (x1.symm.trans (q1.trans y1)) x3
  ·exact ⟨x1.symm.trans (q1.trans y1),x2.symm.trans (q2.trans y2)⟩
 ·intro j t c g hw
  rcases hg j t c g with ⟨rfl,rfl,rfl⟩|⟨rfl,rfl,rfl⟩|⟨rfl,h0,h1,g2⟩|⟨h0,h1,g2⟩
  ·rw[BK];simpa using h.sat.low _ _ _ r0 (by rcases ct with rfl|⟨v,rfl⟩<;>rfl)
  ·rw[BK];simpa using h.sat.low _ _ _ r2 rfl
  ·rw[BK];simp only[h1,if_false];exact h.sat.low _ _ _ g2 hw
  ·rw[B1 _ h0];exact h.sat.low _ _ _ g2 hw
theorem OZ {own:AE} {q t:Nat} {b:C6} {p:Nat × Nat} (h:p≠(q,t)) (ho:p.2<(own p.1).c9):((own.put q (((own q).m9 t none).new b)) p.1).c7 p.2=(own p.1).c7 p.2:=by
 by_cases hs:p.1=q
 ·rw[hs]at ho ⊢
  rw[AE.g7];simp only[BO.new,BO.m9];have h1 : ¬ p.2=(own q).c9:=by omega
  have h2 : ¬ p.2=t:=λ e=>h (Prod.ext hs e)
  simp only[h1,h2,if_false]
 ·rw[AE.bm _ _ _ _ hs]
theorem O0 {own:AE} {q t:Nat} {b:C6} (s:Nat):(own s).c9<=((own.put q (((own q).m9 t none).new b)) s).c9:=by
 by_cases hs:s=q
 ·subst hs;rw[AE.g7];simp only[BO.new,BO.m9];omega
 ·rw[AE.bm _ _ _ _ hs];exact Nat.le_refl _
theorem RX.Ba (h:RX σ tm M st) {s key sk i z:Nat} {rows:List (Option (Nat × List (List AV)))} {es es':List (List AV)} (e:b8 M key=some (sk,.mx rows)) (hr:rows[i]? = some (some (z,es))) (hm:FR s M=false) (ht:GO s tm=false) :
  RX (CF σ s λ_=>((σ key (i+1)).1,st.own.c9 (σ key (i+1)).1)) tm ((s,(σ key (i+1)).1,.rw z es')::(key,sk,.hx i (.row (σ key (i+1)).1 (σ key (i+1)).2 z 0 es.length) (rows.set i none))::m5 key M)
   ⟨st.tm,st.own.put (σ key (i+1)).1 (((st.own (σ key (i+1)).1).m9 (σ key (i+1)).2 none).new ⟨z,es'⟩)⟩:=by
 have r0:=D6 e;have e1:b7 M key (i+1)=some (.rw z es):=by simp [b7,e,hr]
 have hi:i<rows.length:=(zS hr).1;have tn:key≠s:=(PA hm _ _ _ e).1;have ff:(BU (CF σ s λ_=>((σ key (i+1)).1,st.own.c9 (σ key (i+1)).1)) key 0 (rows.set i none)).set i [.row (σ key (i+1)).1 (σ key (i+1)).2 z 0 es.length]=BU σ key 0 rows:=by
  apply List.ext_getElem?;intro j;by_cases hj:i=j
  ·subst hj
   rw[List.getElem?_set_self (by rw[EZ,List.length_set];exact hi),FY,hr];simp
  ·rw[List.getElem?_set_ne hj,FY,FY,List.getElem?_set_ne hj,B1 _ tn]
 have nb : ∀ j t c',b7 M j t=some c'->GN s c'=false/\j≠s:=by
  intro j t c' g;obtain ⟨s1,c0,g1,g2,g3⟩:=HQ g;obtain ⟨g4,g5⟩:=PA hm _ _ _ g1;refine ⟨?_,g4⟩;cases t with
  | zero=>rw[g2 rfl];exact g5
  | succ i=>obtain ⟨rows,z,es,_,_,rfl⟩:=g3 i rfl;rfl
 have hg : ∀ j t c,b7 ((s,(σ key (i+1)).1,.rw z es')::(key,sk,.hx i (.row (σ key (i+1)).1 (σ key (i+1)).2 z 0 es.length) (rows.set i none))::m5 key M) j t=some c ->
   (j=s/\t=0/\c = .rw z es')\/(j=key/\t=0/\c = .hx i (.row (σ key (i+1)).1 (σ key (i+1)).2 z 0 es.length) (rows.set i none))\/(j≠s /\ ¬ (j=key/\t=0) /\ ¬ (j=key/\t=i+1)/\(j=key -> ∃ z es,c = .rw z es)/\b7 M j t=some c):=by
  intro j t c g;by_cases hj:j=s
  ·subst hj
   obtain ⟨rfl,rfl⟩:=QH (c := .rw z es') trivial g;exact Or.inl ⟨rfl,rfl,rfl⟩
  ·rw[MU hj]at g
   by_cases hk:j=key
   ·subst hk
    cases t with
    | zero=>rw[QG]at g;exact Or.inr (Or.inl ⟨rfl,rfl,(Option.some.inj g).symm⟩)
    | succ t =>
     simp only[b7,b8,Nat.beq_refl,cond_true]at g;by_cases jr:i=t
     ·subst jr
      rw[List.getElem?_set_self hi]at g;cases g
     ·rw[List.getElem?_set_ne jr]at g
      refine Or.inr (Or.inr ⟨hj,by omega,by omega,λ_ => ?_,?_⟩)
      ·split at g
       ·exact ⟨_,_,(Option.some.inj g).symm⟩
       ·cases g
      ·simp only[b7,e]
       exact g
   ·rw[MU hk]at g
    obtain ⟨g1,g2⟩:=GL g;exact Or.inr (Or.inr ⟨hj,by omega,by omega,λ h=>absurd h hk,g2⟩)
 refine ⟨λ j => ?_,⟨?_,?_,?_,?_,?_⟩⟩
 ·rw[VQ (QR ht j)];exact h.tm j
 ·intro j s1 c g
  simp only[b8]at g;cases hb:Nat.beq j s<;>simp only[hb,cond_true,cond_false]at g
  ·rw[B1 _ (EL.1 hb)]
   cases n8:Nat.beq j key<;>simp only[n8,cond_true,cond_false]at g
   ·exact h.sat.site _ _ _ (JY g).2
   ·simp only[Option.some.injEq,Prod.mk.injEq]at g
    rw[BI.1 n8,<-g.1];exact h.sat.site _ _ _ e
  ·simp only[Option.some.injEq,Prod.mk.injEq]at g
   rw[BI.1 hb,BK,<-g.1]
 ·intro j t c g
  rcases hg j t c g with ⟨rfl,rfl,rfl⟩|⟨rfl,rfl,rfl⟩|⟨h0,h1,h2,h3,g2⟩
  ·rw[BK]
   simp [AE.g7,BO.new,AE.c9,BO.m9,A4.c7]
  ·rw[B1 _ tn]
   simp only[A4.c7,ff];exact (OZ (λ he=>absurd (h.sat.inj _ _ _ _ _ _ r0 e1 he).2 (by omega)) (h.sat.old _ _ _ r0)).trans (h.sat.c7 _ _ _ r0)
  ·rw[B1 _ h0,TM (nb _ _ _ g2).1 h0]
   exact (OZ (λ he=>h2 (h.sat.inj _ _ _ _ _ _ g2 e1 he)) (h.sat.old _ _ _ g2)).trans (h.sat.c7 _ _ _ g2)
 ·intro j t c g
  rcases hg j t c g with ⟨rfl,rfl,rfl⟩|⟨rfl,rfl,rfl⟩|⟨h0,h1,h2,h3,g2⟩
  ·rw[BK]
   simp [AE.g7,BO.new,AE.c9,BO.m9]
  ·rw[B1 _ tn]
   exact Nat.lt_of_lt_of_le (h.sat.old _ _ _ r0) (O0 _)
  ·rw[B1 _ h0]
   exact Nat.lt_of_lt_of_le (h.sat.old _ _ _ g2) (O0 _)
 ·have hold : ∀ j t c,b7 ((s,(σ key (i+1)).1,.rw z es')::(key,sk,.hx i (.row (σ key (i+1)).1 (σ key (i+1)).2 z 0 es.length) (rows.set i none))::m5 key M) j t=some c->(j=s/\t=0)\/(j≠s /\ ∃ c0,b7 M j t=some c0):=by
   intro j t c g;rcases hg j t c g with ⟨rfl,rfl,rfl⟩|⟨rfl,rfl,rfl⟩|⟨h0,h1,h2,h3,g2⟩
   ·exact Or.inl ⟨rfl,rfl⟩
   ·exact Or.inr ⟨tn,_,r0⟩
   ·exact Or.inr ⟨h0,_,g2⟩
  have gl : ∀ j0 t0 c0,b7 M j0 t0=some c0->((σ key (i+1)).1,st.own.c9 (σ key (i+1)).1)≠σ j0 t0:=by
   intro j0 t0 c0 g he;have:=h.sat.old _ _ _ g
   rw[<-he]at this;exact absurd this (Nat.lt_irrefl _)
  intro j t j' t' c c' g g' hj;rcases hold j t c g with ⟨rfl,rfl⟩|⟨a1,c1,a2⟩<;>rcases hold j' t' c' g' with ⟨rfl,rfl⟩|⟨b1,c2,b2⟩
  ·exact ⟨rfl,rfl⟩
  ·rw[BK,B1 _ b1]at hj;exact absurd hj (gl _ _ _ b2)
  ·rw[BK,B1 _ a1]at hj;exact absurd hj.symm (gl _ _ _ a2)
  ·rw[B1 _ a1,B1 _ b1]at hj
   exact h.sat.inj _ _ _ _ _ _ a2 b2 hj
 ·intro j t c g hw
  rcases hg j t c g with ⟨rfl,rfl,rfl⟩|⟨rfl,rfl,rfl⟩|⟨h0,h1,h2,h3,g2⟩
  ·rw[BK];exact h.sat.low _ _ _ e1 rfl
  ·rw[B1 _ tn];exact h.sat.low _ _ _ r0 rfl
  ·rw[B1 _ h0];exact h.sat.low _ _ _ g2 hw
theorem RX.Bc (h:RX σ tm M st) {s key s':Nat} {rows:List (Option (Nat × List (List AV)))} (e:b8 M key=some (s',.mx rows)) (hm:FR s M=false) (ht:GO s tm=false) :
  RX (CF σ s λ t=>match t with|0=>(s',st.own.c9 s')|i+1=>σ key (i+1)) tm ((s,s',.mx (rows++[none]))::m5 key M)
   ⟨st.tm,st.own.put s' (((st.own s').m9 (σ key 0).2 none).new ⟨1,BU σ key 0 rows++[[.nil]]⟩)⟩:=by
 have hs:=h.sat.site _ _ _ e;subst hs;have r0:=D6 e;generalize hF:(λ t=>match t with|0=>((σ key 0).1,st.own.c9 (σ key 0).1)|i+1=>σ key (i+1):Nat->Nat × Nat)=F;have F0:F 0=((σ key 0).1,st.own.c9 (σ key 0).1):=by rw[<-hF]
 have F1 : ∀ i,F (i+1)=σ key (i+1):=by intro i;rw[<-hF]
 have ff:BU (CF σ s F) s 0 (rows++[none])=BU σ key 0 rows++[[.nil]]:=by
  apply List.ext_getElem?;intro j;rw[FY,BK];rcases Nat.lt_trichotomy j rows.length with hj|hj|hj
  ·rw[List.getElem?_append_left hj,List.getElem?_append_left (by rw[EZ];exact hj),FY]
   congr 1;funext r
   cases r with
   | none=>rfl
   | some x=>simp only[Nat.zero_add];rw[F1]
  ·subst hj
   rw[List.getElem?_append_right (Nat.le_refl _),List.getElem?_append_right (by rw[EZ];exact Nat.le_refl _),EZ];simp
  ·rw[List.getElem?_eq_none (by simp;omega),List.getElem?_eq_none (by simp [EZ];omega)];rfl
 have nb : ∀ j t c',b7 M j t=some c'->GN s c'=false/\j≠s:=by
  intro j t c' g;obtain ⟨s1,c0,g1,g2,g3⟩:=HQ g;obtain ⟨g4,g5⟩:=PA hm _ _ _ g1;refine ⟨?_,g4⟩;cases t with
  | zero=>rw[g2 rfl];exact g5
  | succ i=>obtain ⟨rows,z,es,_,_,rfl⟩:=g3 i rfl;rfl
 have hg : ∀ j t c,b7 ((s,(σ key 0).1,.mx (rows++[none]))::m5 key M) j t=some c ->
   (j=s/\t=0/\c = .mx (rows++[none]))\/(j=s/\t≠0/\b7 M key t=some c)\/(j≠s/\j≠key/\b7 M j t=some c):=by
  intro j t c g;by_cases hj:j=s
  ·subst hj
   cases t with
   | zero=>rw[QG]at g;exact Or.inl ⟨rfl,rfl,(Option.some.inj g).symm⟩
   | succ t =>
    simp only[b7,b8,Nat.beq_refl,cond_true]at g;rcases Nat.lt_trichotomy t rows.length with gy|gy|gy
    ·rw[List.getElem?_append_left gy]at g
     refine Or.inr (Or.inl ⟨rfl,by omega,?_⟩);simp only[b7,e];exact g
    ·subst gy
     rw[List.getElem?_append_right (Nat.le_refl _),Nat.sub_self]at g;simp at g
    ·rw[List.getElem?_eq_none (by simp;omega)]at g;cases g
  ·rw[MU hj]at g
   obtain ⟨g1,g2⟩:=GL g;exact Or.inr (Or.inr ⟨hj,g1,g2⟩)
 refine ⟨λ j => ?_,⟨?_,?_,?_,?_,?_⟩⟩
 ·rw[VQ (QR ht j)];exact h.tm j
 ·intro j s1 c g
  simp only[b8]at g;cases hb:Nat.beq j s<;>simp only[hb,cond_true,cond_false]at g
  ·rw[B1 _ (EL.1 hb)];exact h.sat.site _ _ _ (JY g).2
  ·simp only[Option.some.injEq,Prod.mk.injEq]at g
   rw[BI.1 hb,BK,F0,<-g.1]
 ·intro j t c g
  rcases hg j t c g with ⟨rfl,rfl,rfl⟩|⟨rfl,h0,g2⟩|⟨h0,h1,g2⟩
  ·rw[BK,F0]
   simp only[A4.c7,ff];simp [AE.g7,BO.new,AE.c9,BO.m9]
  ·obtain ⟨t',rfl⟩ : ∃ t',t=t'+1:=⟨t-1,by omega⟩
   rw[BK,F1];have hb:c.c7 (CF σ j F) j=c.c7 σ key:=by
    obtain ⟨_,_,_,_,g3⟩:=HQ g2;obtain ⟨_,_,_,_,_,rfl⟩:=g3 t' rfl;rfl
   rw[hb];exact (OZ (λ he=>absurd (h.sat.inj _ _ _ _ _ _ g2 r0 he).2 (by omega)) (h.sat.old _ _ _ g2)).trans (h.sat.c7 _ _ _ g2)
  ·rw[B1 _ h0,TM (nb _ _ _ g2).1 h0]
   exact (OZ (λ he=>h1 (h.sat.inj _ _ _ _ _ _ g2 r0 he).1) (h.sat.old _ _ _ g2)).trans (h.sat.c7 _ _ _ g2)
 ·intro j t c g
  rcases hg j t c g with ⟨rfl,rfl,rfl⟩|⟨rfl,h0,g2⟩|⟨h0,h1,g2⟩
  ·rw[BK,F0]
   simp [AE.g7,BO.new,AE.c9,BO.m9]
  ·obtain ⟨t',rfl⟩ : ∃ t',t=t'+1:=⟨t-1,by omega⟩
   rw[BK,F1];exact Nat.lt_of_lt_of_le (h.sat.old _ _ _ g2) (O0 _)
  ·rw[B1 _ h0]
   exact Nat.lt_of_lt_of_le (h.sat.old _ _ _ g2) (O0 _)
 ·have hold : ∀ j t c,b7 ((s,(σ key 0).1,.mx (rows++[none]))::m5 key M) j t=some c->(j=s/\t=0) \/ ∃ j0 t0 c0,b7 M j0 t0=some c0/\CF σ s F j t=σ j0 t0/\((j0=key/\t0=t/\j=s)\/(j0=j/\t0=t/\j≠key)):=by
   intro j t c g;rcases hg j t c g with ⟨rfl,rfl,rfl⟩|⟨rfl,h0,g2⟩|⟨h0,h1,g2⟩
   ·exact Or.inl ⟨rfl,rfl⟩
   ·obtain ⟨t',rfl⟩ : ∃ t',t=t'+1:=⟨t-1,by omega⟩
    exact Or.inr ⟨_,_,_,g2,by rw[BK,F1],Or.inl ⟨rfl,rfl,rfl⟩⟩
   ·exact Or.inr ⟨_,_,_,g2,by rw[B1 _ h0],Or.inr ⟨rfl,rfl,h1⟩⟩
  have gl : ∀ j0 t0 c0,b7 M j0 t0=some c0->CF σ s F s 0≠σ j0 t0:=by
   intro j0 t0 c0 g he;rw[BK,F0]at he;have:=h.sat.old _ _ _ g
   rw[<-he]at this;exact absurd this (Nat.lt_irrefl _)
  intro j t j' t' c c' g g' hj;rcases hold j t c g with ⟨rfl,rfl⟩|⟨j0,t0,c0,a1,a2,a3⟩<;>rcases hold j' t' c' g' with ⟨rfl,rfl⟩|⟨j1,t1,c1,b1,b2,b3⟩
  ·exact ⟨rfl,rfl⟩
  ·rw[b2]at hj;exact absurd hj (gl _ _ _ b1)
  ·rw[a2]at hj;exact absurd hj.symm (gl _ _ _ a1)
  ·rw[a2,b2]at hj
   obtain ⟨q1,q2⟩:=h.sat.inj _ _ _ _ _ _ a1 b1 hj;rcases a3 with ⟨x1,x2,x3⟩|⟨x1,x2,x3⟩<;>rcases b3 with ⟨y1,y2,y3⟩|⟨y1,y2,y3⟩
   ·exact ⟨x3.trans y3.symm,x2.symm.trans (q2.trans y2)⟩
   ·exact absurd (y1.symm.trans (q1.symm.trans x1)) y3
   ·exact absurd (x1.symm.trans (q1.trans y1)) x3
   ·exact ⟨x1.symm.trans (q1.trans y1),x2.symm.trans (q2.trans y2)⟩
 ·intro j t c g hw
  rcases hg j t c g with ⟨rfl,rfl,rfl⟩|⟨rfl,h0,g2⟩|⟨h0,h1,g2⟩
  ·rw[BK,F0];exact h.sat.low _ _ _ r0 rfl
  ·obtain ⟨t',rfl⟩ : ∃ t',t=t'+1:=⟨t-1,by omega⟩
   rw[BK,F1];exact h.sat.low _ _ _ g2 hw
  ·rw[B1 _ h0];exact h.sat.low _ _ _ g2 hw
theorem WN {k:Nat} {v:AV} (h:LO k v=false):ML k v=false:=by
 cases v with
 | row j t z o n=>simp only[LO]at h;simp only[ML,h,cond_false]
 | ptr j t a b=>simp only[LO]at h;simp only[ML,h,cond_false]
 | _=>rfl
theorem RH {k:Nat} : ∀ {cs:List AV},HG k cs=false->LZ k cs=false
 | [],_=>rfl
 | c::r,h=>by
  simp only[HG]at h;cases h1:LO k c<;>simp only[h1,cond_true,cond_false]at h
  ·simp only[LZ,WN h1,cond_false,RH h]
  ·cases h
theorem cA {k:Nat} : ∀ {es:List (List AV)},NT k es=false->PW k es=false
 | [],_=>rfl
 | c::r,h=>by
  simp only[NT]at h;cases h1:HG k c<;>simp only[h1,cond_true,cond_false]at h
  ·simp only[PW,RH h1,cond_false,cA h]
  ·cases h
theorem RG {k:Nat} {v:AV} (h:MZ k v=false):OE k v=false:=by
 cases v with
 | agg cs=>exact RH h
 | fn p f g cs=>exact RH h
 | row a b c d e=>exact WN (v := .row a b c d e) h
 | ptr a b c d=>exact WN (v := .ptr a b c d) h
 | _=>rfl
theorem bZ {k:Nat} : ∀ {cs:List AV},QQ k cs=false->PV k cs=false
 | [],_=>rfl
 | c::r,h=>by
  simp only[QQ]at h;cases h1:MZ k c<;>simp only[h1,cond_true,cond_false]at h
  ·simp only[PV,RG h1,cond_false,bZ h]
  ·cases h
theorem qV {k:Nat} {v:AV} (h:LP k v=false):NE k v=false:=by
 cases v with
 | e7 cs=>exact bZ h
 | agg cs=>exact RG (v := .agg cs) h
 | fn p f g cs=>exact RG (v := .fn p f g cs) h
 | row a b c d e=>exact RG (v := .row a b c d e) h
 | ptr a b c d=>exact RG (v := .ptr a b c d) h
 | _=>rfl
theorem cD {k:Nat} : ∀ {tm:Tm},GO k tm=false->L0 k tm=false
 | [],_=>rfl
 | (i,v)::r,h=>by
  simp only[GO]at h;cases h1:LP k v<;>simp only[h1,cond_true,cond_false]at h
  ·simp only[L0,qV h1,cond_false,cD h]
  ·cases h
theorem cC {k:Nat} : ∀ {M:Mem},FR k M=false->IM k M=false
 | [],_=>rfl
 | (i,s,c)::r,h=>by
  simp only[FR]at h;cases h0:Nat.beq k i<;>simp only[h0,cond_true,cond_false]at h
  ·cases h1:GN k c<;>simp only[h1,cond_true,cond_false]at h
   ·have:MM k c=false:=by
     cases c with
     | bx cs=>exact RH h1
     | bs z es=>exact cA h1
     | _=>rfl
    simp only[IM,this,cond_false,cC h]
   ·cases h
  ·cases h
theorem RX.Ns {M1 M2:Mem} (hm : ∀ k,b8 M1 k=b8 M2 k) (h:RX σ tm M1 st):RX σ tm M2 st:=by
 have hr : ∀ k t,b7 M1 k t=b7 M2 k t:=λ k t=>by simp only[b7,hm]
 refine ⟨h.tm,⟨λ k s c e => ?_,λ k t c e => ?_,λ k t c e => ?_,λ k t k' t' c c' e e' => ?_,λ k t c e hw => ?_⟩⟩
 ·rw[<-hm]at e;exact h.sat.site _ _ _ e
 ·rw[<-hr]at e;exact h.sat.c7 _ _ _ e
 ·rw[<-hr]at e;exact h.sat.old _ _ _ e
 ·rw[<-hr]at e e';exact h.sat.inj _ _ _ _ _ _ e e'
 ·rw[<-hr]at e;exact h.sat.low _ _ _ e hw
theorem RX.Ey (h:RX σ tm M st) {s q k2 s2 z:Nat} {es:List (List AV)} (e2:b8 M k2=some (s2,.rw z es)) (hk:s≠k2) (hm:FR s M=false) (ht:GO s tm=false) (hq:D5 q=true) :
  ∃ σ',σ' s 0=(q,st.own.c9 q)/\RX σ' tm ((s,q,.mx [some (z,es)])::m5 k2 M) ⟨st.tm,st.own.put q ((st.own q).new ⟨1,[[.row (σ k2 0).1 (σ k2 0).2 z 0 es.length]]⟩)⟩:=by
 have dt:A4.flat (.mx [none]):=by
  intro i x hx;cases i with
  | zero=>simp at hx
  | succ i=>simp at hx
 have h1:=h.dc (s:=s) (q:=q) hm ht (.mx [none]) dt rfl (λ_=>hq);have wq:b8 ((s,q,.mx [none])::M) k2=some (s2,.rw z es):=by
  simp only[b8,EL.2 (λ e=>hk e.symm),cond_false];exact e2
 have mh:IM s ((s,q,.mx [none])::M)=false:=by simp only[IM,MM,cond_false,cC hm]
 have h2:=h1.um (k:=s) (s:=q) (k2:=k2) (i:=0) (rows:=[none]) (c0 := .mx [none]) (by simp [b8]) (Or.inl rfl) wq hk (cD ht) mh (by simp);refine ⟨CF σ s (λ t=>if t=0+1 then σ k2 0 else (q,st.own.c9 q)),?_,?_⟩
 ·rw[BK];simp
 ·have hσ:(CF (CF σ s λ_=>(q,st.own.c9 q)) s λ t=>if t=0+1 then (CF σ s λ_=>(q,st.own.c9 q)) k2 0 else (CF σ s λ_=>(q,st.own.c9 q)) s t)=CF σ s (λ t=>if t=0+1 then σ k2 0 else (q,st.own.c9 q)):=by
   funext j t
   by_cases hj:j=s
   ·subst hj;rw[BK,BK];simp only[BK,B1 _ (λ e=>hk e.symm)]
   ·rw[B1 _ hj,B1 _ hj,B1 _ hj]
  rw[hσ]at h2;have hM:m5 k2 ((s,q,A4.mx [none])::M)=(s,q,.mx [none])::m5 k2 M:=by
   simp only[m5,EL.2 (λ e=>hk e.symm),cond_false]
  rw[hM]at h2;have ho : ∀ b b':C6,(st.own.put q ((st.own q).new b)).put q (((st.own.put q ((st.own q).new b)) q).m9 (st.own.c9 q) (some b'))=st.own.put q ((st.own q).new b'):=by
   intro b b';rw[AE.ju,AE.g7];congr 1;simp only[BO.m9,BO.new,AE.c9,BO.mk.injEq,true_and];funext t'
   by_cases gy:t'=(st.own q).c9<;>simp [gy]
  have hn:(CF σ s λ_=>(q,st.own.c9 q)) s 0=(q,st.own.c9 q):=by rw[BK]
  have ke:(CF σ s λ_=>(q,st.own.c9 q)) k2=σ k2:=B1 _ (λ e=>hk e.symm);simp only[hn,ke]at h2;rw[ho]at h2;refine RX.Ns (λ k => ?_) h2;simp only[b8];cases Nat.beq k s<;>rfl
theorem RX.Bb (h:RX σ tm M st) {s key k2 ky s' s2 z:Nat} {rows:List (Option (Nat × List (List AV)))} {es:List (List AV)} (e:b8 M key=some (s',.mx rows)) (e2:b8 M k2=some (s2,.rw z es)) (hk:key≠k2) (hm:FR s M=false) (ht:GO s tm=false) :
  RX (CF σ s λ t=>match t with|0=>(s',st.own.c9 s')|i+1=>if i=rows.length then σ k2 0 else σ key (i+1)) tm ((s,s',.mx (rows++[some (z,es)]))::m5 key (m5 k2 (m5 ky M)))
   ⟨st.tm,st.own.put s' (((st.own s').m9 (σ key 0).2 none).new ⟨1,BU σ key 0 rows++[[.row (σ k2 0).1 (σ k2 0).2 z 0 es.length]]⟩)⟩:=by
 have hs:=h.sat.site _ _ _ e;subst hs;have r0:=D6 e;have r2:=D6 e2;generalize hF:(λ t=>match t with|0=>((σ key 0).1,st.own.c9 (σ key 0).1)|i+1=>if i=rows.length then σ k2 0 else σ key (i+1):Nat->Nat × Nat)=F;have F0:F 0=((σ key 0).1,st.own.c9 (σ key 0).1):=by rw[<-hF]
 have F1 : ∀ i,F (i+1)=if i=rows.length then σ k2 0 else σ key (i+1):=by intro i;rw[<-hF]
 have ff:BU (CF σ s F) s 0 (rows++[some (z,es)])=BU σ key 0 rows++[[.row (σ k2 0).1 (σ k2 0).2 z 0 es.length]]:=by
  apply List.ext_getElem?;intro j;rw[FY,BK];rcases Nat.lt_trichotomy j rows.length with hj|hj|hj
  ·rw[List.getElem?_append_left hj,List.getElem?_append_left (by rw[EZ];exact hj),FY]
   congr 1;funext r
   cases r with
   | none=>rfl
   | some x=>simp only[Nat.zero_add];rw[F1,if_neg (by omega)]
  ·subst hj
   rw[List.getElem?_append_right (Nat.le_refl _),List.getElem?_append_right (by rw[EZ];exact Nat.le_refl _),EZ];simp [F1]
  ·rw[List.getElem?_eq_none (by simp;omega),List.getElem?_eq_none (by simp [EZ];omega)];rfl
 have nb : ∀ j t c',b7 M j t=some c'->GN s c'=false/\j≠s:=by
  intro j t c' g;obtain ⟨s1,c0,g1,g2,g3⟩:=HQ g;obtain ⟨g4,g5⟩:=PA hm _ _ _ g1;refine ⟨?_,g4⟩;cases t with
  | zero=>rw[g2 rfl];exact g5
  | succ i=>obtain ⟨rows,z,es,_,_,rfl⟩:=g3 i rfl;rfl
 have hg : ∀ j t c,b7 ((s,(σ key 0).1,.mx (rows++[some (z,es)]))::m5 key (m5 k2 (m5 ky M))) j t=some c ->
   (j=s/\t=0/\c = .mx (rows++[some (z,es)]))\/(j=s/\t=rows.length+1/\c = .rw z es)\/(j=s/\t≠0/\t≠rows.length+1/\b7 M key t=some c)\/(j≠s/\j≠key/\j≠k2/\b7 M j t=some c):=by
  intro j t c g;by_cases hj:j=s
  ·subst hj
   cases t with
   | zero=>rw[QG]at g;exact Or.inl ⟨rfl,rfl,(Option.some.inj g).symm⟩
   | succ t =>
    simp only[b7,b8,Nat.beq_refl,cond_true]at g;rcases Nat.lt_trichotomy t rows.length with gy|gy|gy
    ·rw[List.getElem?_append_left gy]at g
     refine Or.inr (Or.inr (Or.inl ⟨rfl,by omega,by omega,?_⟩));simp only[b7,e];exact g
    ·subst gy
     rw[List.getElem?_append_right (Nat.le_refl _),Nat.sub_self]at g;exact Or.inr (Or.inl ⟨rfl,rfl,(Option.some.inj g).symm⟩)
    ·rw[List.getElem?_eq_none (by simp;omega)]at g;cases g
  ·rw[MU hj]at g
   obtain ⟨g1,g2⟩:=GL g;obtain ⟨g3,g4⟩:=GL g2;obtain ⟨_,g5⟩:=GL g4;exact Or.inr (Or.inr (Or.inr ⟨hj,g1,g3,g5⟩))
 refine ⟨λ j => ?_,⟨?_,?_,?_,?_,?_⟩⟩
 ·rw[VQ (QR ht j)];exact h.tm j
 ·intro j s1 c g
  simp only[b8]at g;cases hb:Nat.beq j s<;>simp only[hb,cond_true,cond_false]at g
  ·rw[B1 _ (EL.1 hb)];exact h.sat.site _ _ _ (JY (JY (JY g).2).2).2
  ·simp only[Option.some.injEq,Prod.mk.injEq]at g
   rw[BI.1 hb,BK,F0,<-g.1]
 ·intro j t c g
  rcases hg j t c g with ⟨rfl,rfl,rfl⟩|⟨rfl,rfl,rfl⟩|⟨rfl,h0,h1,g2⟩|⟨h0,h1,h2,g2⟩
  ·rw[BK,F0]
   simp only[A4.c7,ff];simp [AE.g7,BO.new,AE.c9,BO.m9]
  ·rw[BK,F1,if_pos rfl]
   exact (OZ (λ he=>hk (h.sat.inj _ _ _ _ _ _ r2 r0 he).1.symm) (h.sat.old _ _ _ r2)).trans (h.sat.c7 _ _ _ r2)
  ·obtain ⟨t',rfl⟩ : ∃ t',t=t'+1:=⟨t-1,by omega⟩
   rw[BK,F1,if_neg (by omega)];have hb:c.c7 (CF σ j F) j=c.c7 σ key:=by
    obtain ⟨_,_,_,_,g3⟩:=HQ g2;obtain ⟨_,_,_,_,_,rfl⟩:=g3 t' rfl;rfl
   rw[hb];exact (OZ (λ he=>absurd (h.sat.inj _ _ _ _ _ _ g2 r0 he).2 (by omega)) (h.sat.old _ _ _ g2)).trans (h.sat.c7 _ _ _ g2)
  ·rw[B1 _ h0,TM (nb _ _ _ g2).1 h0]
   exact (OZ (λ he=>h1 (h.sat.inj _ _ _ _ _ _ g2 r0 he).1) (h.sat.old _ _ _ g2)).trans (h.sat.c7 _ _ _ g2)
 ·intro j t c g
  rcases hg j t c g with ⟨rfl,rfl,rfl⟩|⟨rfl,rfl,rfl⟩|⟨rfl,h0,h1,g2⟩|⟨h0,h1,h2,g2⟩
  ·rw[BK,F0]
   simp [AE.g7,BO.new,AE.c9,BO.m9]
  ·rw[BK,F1,if_pos rfl]
   exact Nat.lt_of_lt_of_le (h.sat.old _ _ _ r2) (O0 _)
  ·obtain ⟨t',rfl⟩ : ∃ t',t=t'+1:=⟨t-1,by omega⟩
   rw[BK,F1,if_neg (by omega)];exact Nat.lt_of_lt_of_le (h.sat.old _ _ _ g2) (O0 _)
  ·rw[B1 _ h0]
   exact Nat.lt_of_lt_of_le (h.sat.old _ _ _ g2) (O0 _)
 ·have hold : ∀ j t c,b7 ((s,(σ key 0).1,.mx (rows++[some (z,es)]))::m5 key (m5 k2 (m5 ky M))) j t=some c->(j=s/\t=0) \/ ∃ j0 t0 c0,b7 M j0 t0=some c0/\CF σ s F j t=σ j0 t0/\((j0=k2/\t0=0/\j=s/\t=rows.length+1)\/(j0=key/\t0=t/\j=s)\/(j0=j/\t0=t/\j≠key/\j≠k2)):=by
   intro j t c g;rcases hg j t c g with ⟨rfl,rfl,rfl⟩|⟨rfl,rfl,rfl⟩|⟨rfl,h0,h1,g2⟩|⟨h0,h1,h2,g2⟩
   ·exact Or.inl ⟨rfl,rfl⟩
   ·exact Or.inr ⟨_,_,_,r2,by rw[BK,F1,if_pos rfl],Or.inl ⟨rfl,rfl,rfl,rfl⟩⟩
   ·obtain ⟨t',rfl⟩ : ∃ t',t=t'+1:=⟨t-1,by omega⟩
    exact Or.inr ⟨_,_,_,g2,by rw[BK,F1,if_neg (by omega)],Or.inr (Or.inl ⟨rfl,rfl,rfl⟩)⟩
   ·exact Or.inr ⟨_,_,_,g2,by rw[B1 _ h0],Or.inr (Or.inr ⟨rfl,rfl,h1,h2⟩)⟩
  have gl : ∀ j0 t0 c0,b7 M j0 t0=some c0->CF σ s F s 0≠σ j0 t0:=by
   intro j0 t0 c0 g he;rw[BK,F0]at he;have:=h.sat.old _ _ _ g
   rw[<-he]at this;exact absurd this (Nat.lt_irrefl _)
  intro j t j' t' c c' g g' hj;rcases hold j t c g with ⟨rfl,rfl⟩|⟨j0,t0,c0,a1,a2,a3⟩<;>rcases hold j' t' c' g' with ⟨rfl,rfl⟩|⟨j1,t1,c1,b1,b2,b3⟩
  ·exact ⟨rfl,rfl⟩
  ·rw[b2]at hj;exact absurd hj (gl _ _ _ b1)
  ·rw[a2]at hj;exact absurd hj.symm (gl _ _ _ a1)
  ·rw[a2,b2]at hj
   obtain ⟨q1,q2⟩:=h.sat.inj _ _ _ _ _ _ a1 b1 hj;rcases a3 with ⟨x1,x2,x3,x4⟩|⟨x1,x2,x3⟩|⟨x1,x2,x3,x4⟩<;>rcases b3 with ⟨y1,y2,y3,y4⟩|⟨y1,y2,y3⟩|⟨y1,y2,y3,y4⟩
   ·exact ⟨x3.trans y3.symm,x4.trans y4.symm⟩
   ·exact absurd (y1.symm.trans (q1.symm.trans x1)) hk
   ·exact absurd (y1.symm.trans (q1.symm.trans x1)) y4
   ·exact absurd (x1.symm.trans (q1.trans y1)) hk
   ·exact ⟨x3.trans y3.symm,x2.symm.trans (q2.trans y2)⟩
   ·exact absurd (y1.symm.trans (q1.symm.trans x1)) y3
   ·exact absurd (x1.symm.trans (q1.trans y1)) x4
   ·exact absurd (x1.symm.trans (q1.trans y1)) x3
   ·exact ⟨x1.symm.trans (q1.trans y1),x2.symm.trans (q2.trans y2)⟩
 ·intro j t c g hw
  rcases hg j t c g with ⟨rfl,rfl,rfl⟩|⟨rfl,rfl,rfl⟩|⟨rfl,h0,h1,g2⟩|⟨h0,h1,h2,g2⟩
  ·rw[BK,F0];exact h.sat.low _ _ _ r0 rfl
  ·rw[BK,F1,if_pos rfl];exact h.sat.low _ _ _ r2 rfl
  ·obtain ⟨t',rfl⟩ : ∃ t',t=t'+1:=⟨t-1,by omega⟩
   rw[BK,F1,if_neg (by omega)];exact h.sat.low _ _ _ g2 hw
  ·rw[B1 _ h0];exact h.sat.low _ _ _ g2 hw
theorem GD (k:IntKind) (n:Int):A7 σ (.int k n) = .int k n:=rfl
theorem F2 (b:Bool):A7 σ (.bool b) = .bool b:=rfl
theorem GP (l:Bool) (es:List (List AV)):A7 σ (.sl l es) = .sl l es:=rfl
theorem C0 (k t z o n:Nat):A7 σ (.row k t z o n) = .row (σ k t).1 (σ k t).2 z o n:=rfl
theorem DK (k t i j:Nat):A7 σ (.ptr k t i j) = .ptr (σ k t).1 (σ k t).2 i j:=rfl
theorem HS (cs:List AV):A7 σ (.n7 cs) = .n7 cs:=rfl
theorem E2:A7 σ .nil = .nil:=rfl
theorem HJ (cs:List AV):A7 σ (.agg cs) = .agg (cs.map (A0 σ)):=rfl
theorem Hz (v:Value):A7 σ (.w6 v) = .w6 v:=rfl
theorem VH (p:Bool) (f g:Nat) (cs:List AV):A7 σ (.fn p f g cs) = .fn p f g (cs.map (A0 σ)):=rfl
theorem HK (cs:List AV):A7 σ (.e7 cs) = .e7 (cs.map (BC σ)):=rfl
def BM.res (own:AE):BM->AV × AE
 | .val v=>(v,own)
 | .new s b f=>(f (own.c9 s),own.put s ((own s).new b))
 | .qb s b f=>(f (own.c9 s),own.put s ((own s).new b))
 | .aj v o=>(v,o)
 | .ru s v o=>(v,o.put s (own s))
 | .m9 s x=>(.e7 [],own.put s x)
 | .og s x v=>(v,own.put s x)
theorem WG (st:St) (d:Option Nat) (E:BM):st.app d E=⟨(st.dst d (E.res st.own).1).tm,(E.res st.own).2⟩:=by
 cases E<;>cases d<;>rfl
def BG (L:Lib) (tm:Tm) (a7:List Nat) (K:AV->Mem->Prop) (op:C2) (st:St):Prop :=
 ∃ E σ' v M',(∀ c,c5 (B7 L c) a7 st.ev st.own op=some E)/\K v M'/\(E.res st.own).1=A7 σ' v/\RX σ' tm M' ⟨st.tm,(E.res st.own).2⟩
theorem BG.val {L:Lib} {a7:List Nat} {K:AV->Mem->Prop} {op:C2} (h:RX σ tm M st) (v:AV) (he : ∀ c,c5 (B7 L c) a7 st.ev st.own op=some (.val (A7 σ v))) (hk:K v M):BG L tm a7 K op st :=
 ⟨_,σ,v,M,he,hk,rfl,h⟩
variable {L:Lib} {a7:List Nat} {K:AV->Mem->Prop}
theorem pK {x:AM} (hr:RX σ tm M st) (h:XE L tm M a7 K (.m8 x)):BG L tm a7 K (.m8 x) st:=by
 simp only[XE]at h;obtain ⟨h1,h2⟩:=UI h;exact BG.val hr _ (λ C=>by simp only[c5,hr.ev rfl h1]) h2
theorem pQ {s z:Nat} (hr:RX σ tm M st) (h:XE L tm M a7 K (.u9 s z)):BG L tm a7 K (.u9 s z) st:=by
 simp only[XE]at h;cases di:D5 s<;>simp only[di,cond_true,cond_false]at h;obtain ⟨k,h1,h2,h3⟩:=HM h;refine ⟨_,_,_,_,λ C=>rfl,h3,?_,hr.dc h1 h2 (.rw z []) trivial rfl (λ_=>di)⟩;simp only[BM.res,C0,DK,BK]
theorem pL {c a b:AM} (hr:RX σ tm M st) (h:XE L tm M a7 K (.pick c a b)):BG L tm a7 K (.pick c a b) st:=by
 simp only[XE]at h;split at h
 ·rename_i e
  obtain ⟨h1,h2⟩:=UI h;exact BG.val hr _ (λ C=>by simp only[c5,hr.ev e (by intro e;cases e),hr.ev rfl h1,GD,F2,GP,C0,DK,HS,E2,HJ,HK]) h2
 ·rename_i e
  obtain ⟨h1,h2⟩:=UI h;exact BG.val hr _ (λ C=>by simp only[c5,hr.ev e (by intro e;cases e),hr.ev rfl h1,GD,F2,GP,C0,DK,HS,E2,HJ,HK]) h2
 ·exact h.elim
theorem yD {op:BinOp} {k k':IntKind} {a b:Int} {v:AV} (h:CD op k a k' b=some v):A7 σ v=v:=by
 cases op<;>simp only[CD]at h<;>split at h<;>first|(obtain rfl:=Option.some.inj h;rfl)|cases h
theorem zC {k k':IntKind} (h:kq k k'=true):k=k':=by simpa [kq] using h
theorem qJ {op:BinOp} {k k':IntKind} {a b:Int} {K:AV->Prop} (h:WI op k a k' b K) : ∃ v,CD op k a k' b=some v/\K v:=by
 have key : ∀ (p q:Prop) [Decidable p] (A B:Prop) (c:Bool),(¬ p->q)->AF p q A B->(p/\A)\/(¬ p/\B):=by
  intro p q _ A B _ hq hc;by_cases hp:p
  ·exact Or.inl ⟨hp,hc.1 hp⟩
  ·exact Or.inr ⟨hp,hc.2 (hq hp)⟩
 cases op;all_goals try (exact h)
 all_goals (
  simp only[WI]at h;cases hk:kq k k'<;>simp only[hk,cond_true,cond_false]at h;obtain rfl:=zC hk;simp only[CD,if_true])
 ·rcases key (a=b) _ _ _ true (λ e=>e) h with ⟨h1,h2⟩|⟨h1,h2⟩
  ·exact ⟨_,rfl,by rw[show (a == b)=true by simpa using h1];exact h2⟩
  ·exact ⟨_,rfl,by rw[show (a == b)=false by simpa using h1];exact h2⟩
 ·rcases key (a≠b) _ _ _ true (λ e=>by omega) h with ⟨h1,h2⟩|⟨h1,h2⟩
  ·exact ⟨_,rfl,by rw[show (a != b)=true by simpa using h1];exact h2⟩
  ·exact ⟨_,rfl,by rw[show (a != b)=false by simpa using h1];exact h2⟩
 ·rcases key (a<b) _ _ _ true (λ e=>by omega) h with ⟨h1,h2⟩|⟨h1,h2⟩
  ·exact ⟨_,rfl,by simpa [h1] using h2⟩
  ·exact ⟨_,rfl,by simpa [h1] using h2⟩
 ·rcases key (a<=b) _ _ _ true (λ e=>by omega) h with ⟨h1,h2⟩|⟨h1,h2⟩
  ·exact ⟨_,rfl,by simpa [h1] using h2⟩
  ·exact ⟨_,rfl,by simpa [h1] using h2⟩
 ·rcases key (b<a) _ _ _ true (λ e=>by omega) h with ⟨h1,h2⟩|⟨h1,h2⟩
  ·exact ⟨_,rfl,by simpa [h1] using h2⟩
  ·exact ⟨_,rfl,by simpa [h1] using h2⟩
 ·rcases key (b<=a) _ _ _ true (λ e=>by omega) h with ⟨h1,h2⟩|⟨h1,h2⟩
  ·exact ⟨_,rfl,by simpa [h1] using h2⟩
  ·exact ⟨_,rfl,by simpa [h1] using h2⟩
theorem oU {op:BinOp} {x y:AM} (hr:RX σ tm M st) (h:XE L tm M a7 K (.bin op x y)):BG L tm a7 K (.bin op x y) st:=by
 simp only[XE]at h;split at h
 ·rename_i k a k' b e1 e2
  obtain ⟨v,hv,hk⟩:=qJ h;exact BG.val hr v (λ C=>by
   simp only[c5,hr.ev e1 (by intro e;cases e),hr.ev e2 (by intro e;cases e),GD,F2,GP,C0,DK,HS,E2,HJ,HK,hv,Option.map_some];exact congrArg some (congrArg BM.val (yD (σ:=σ) hv).symm)) hk
 ·exact h.elim
theorem oT {ne:Bool} {x y:AM} (hr:RX σ tm M st) (h:XE L tm M a7 K (.beq ne x y)):BG L tm a7 K (.beq ne x y) st:=by
 simp only[XE]at h;split at h
 ·rename_i a b e1 e2
  rw[NI]at h;exact BG.val hr _ (λ C=>by
   simp only[c5,hr.ev e1 (by intro e;cases e),hr.ev e2 (by intro e;cases e),GD,F2,GP,C0,DK,HS,E2,HJ,HK];cases ne<;>rfl) h
 ·exact h.elim
theorem pP {op:UnOp} {x:AM} (hr:RX σ tm M st) (h:XE L tm M a7 K (.un op x)):BG L tm a7 K (.un op x) st:=by
 simp only[XE]at h;split at h
 ·rename_i k n e1
  obtain ⟨v,hv,hk⟩:=h;refine BG.val hr v (λ C => ?_) hk;simp only[c5,hr.ev e1 (by intro e;cases e),GD,F2,GP,C0,DK,HS,E2,HJ,HK,hv,Option.map_some];cases op<;>simp only[NZ,Option.some.injEq,reduceCtorEq]at hv<;>subst hv<;>rfl
 ·rename_i b e1
  split at h
  ·rw[NI]at h
   exact BG.val hr _ (λ C=>by simp only[c5,hr.ev e1 (by intro e;cases e),GD,F2,GP,C0,DK,HS,E2,HJ,HK,NZ,Option.map_some]) h
  ·exact h.elim
 ·exact h.elim
theorem oY {k:IntKind} {x:AM} (hr:RX σ tm M st) (h:XE L tm M a7 K (.conv k x)):BG L tm a7 K (.conv k x) st:=by
 simp only[XE]at h;split at h
 ·rename_i k' n e1
  exact BG.val hr _ (λ C=>by simp only[c5,hr.ev e1 (by intro e;cases e),GD,F2,GP,C0,DK,HS,E2,HJ,HK]) h.h
 ·exact h.elim
theorem oV {s:Nat} {x:AM} (hr:RX σ tm M st) (h:XE L tm M a7 K (.box s x)):BG L tm a7 K (.box s x) st:=by
 simp only[XE]at h;obtain ⟨h0,cs,hc,h⟩:=UH h;obtain ⟨k,h1,h2,h3⟩:=HM h;refine ⟨.new s (A4.c7 σ k (.bx cs)) (λ t => .ptr s t 0 0),_,_,_,λ C => ?_,h3,?_,hr.dc h1 h2 (.bx cs) trivial (kB (fQ h2 x) hc) (λ h=>nomatch h)⟩
 ·simp only[c5,hr.ev rfl h0,ND hc,List.length_map,A4.c7]
 ·simp only[BM.res,C0,DK,BK]
theorem oQ {s:Nat} {z:List AV} (hr:RX σ tm M st) (h:XE L tm M a7 K (.alloc s z)):BG L tm a7 K (.alloc s z) st:=by
 simp only[XE]at h;cases hd:DB z<;>simp only[hd,cond_true,cond_false]at h;obtain ⟨k,h1,h2,h3⟩:=HM h;refine ⟨.new s (A4.c7 σ k (.bx z)) (λ t => .ptr s t 0 0),_,_,_,λ C => ?_,h3,?_,hr.dc h1 h2 (.bx z) trivial (WU hd) (λ h=>nomatch h)⟩
 ·simp only[c5,A4.c7,HO hd]
 ·simp only[BM.res,C0,DK,BK]
theorem U3 {cs ds:List AV} {off n:Nat} (h:part cs off n=some ds):part (cs.map (A0 σ)) off n=some (ds.map (A0 σ)):=by
 simp only[part]at h ⊢;split at h
 ·rename_i hl
  rw[if_pos (by simpa using hl)];obtain rfl:=Option.some.inj h;rw[List.map_take,List.map_drop]
 ·cases h
theorem fS {v:AV} {K:AV->Prop} (h:fF v K):v ≠ .any/\A7 σ v=A0 σ v/\K v:=by
 cases v<;>simp only[fF]at h<;>first|exact h.elim|exact ⟨(by intro e;cases e),rfl,h⟩
theorem NQ (σ:EJ) {agg:Bool} {ds:List AV} {K:AV->Prop} (h:jt agg ds K) : ∃ v,IV agg (ds.map (A0 σ))=some (A7 σ v)/\K v:=by
 cases agg
 ·simp only[jt]at h
  split at h
  ·rename_i c
   obtain ⟨_,h1,h2⟩:=fS (σ:=σ) h;exact ⟨c,by rw[h1];rfl,h2⟩
  ·exact h.elim
 ·exact ⟨.agg ds,rfl,h⟩
theorem lA {cs vs:List AV} {j:Nat}:(splice cs j vs).map (A0 σ)=splice (cs.map (A0 σ)) j (vs.map (A0 σ)):=by
 simp only[splice,List.map_append,List.map_take,List.map_drop,List.length_map]
theorem fZ (hr:RX σ tm M st) : ∀ {ps:List (Nat × Nat × AM)} {cells:List AV} {K:List AV->Prop},XW tm ps cells K -> ∃ cs,fill (cells.map (A0 σ)) (ps.map λ p=>(p.1,p.2.1,st.ev p.2.2))=some (cs.map (A0 σ))/\K cs
 | [],cells,K,h=>⟨cells,rfl,h⟩
 | p::r,cells,K,h=>by
  obtain ⟨h0,vs,hc,h⟩:=UH (show fC (ex tm p.2.2) λ vs=>bif Nat.beq vs.length p.2.1 then bif Nat.ble (p.1+p.2.1) cells.length then fL (splice cells p.1 vs) λ cells=>XW tm r cells K else False else False from h);cases hz:Nat.beq vs.length p.2.1<;>simp only[hz,cond_true,cond_false]at h;have hl:Nat.ble (p.1+p.2.1) cells.length=true:=by
   cases hl:Nat.ble (p.1+p.2.1) cells.length
   ·rw[hl]at h;exact h.elim
   ·rfl
  rw[hl]at h;simp only[cond_true,F7]at h;obtain ⟨cs,h1,h2⟩:=fZ hr h;refine ⟨cs,?_,h2⟩;simp only[List.map_cons,fill,hr.ev rfl h0,ND hc,List.length_map];rw[if_pos ⟨BI.1 hz,Nat.le_of_ble_eq_true hl⟩,<-lA];exact h1
theorem oX {z:List AV} {ps:List (Nat × Nat × AM)} (hr:RX σ tm M st) (h:XE L tm M a7 K (.build z ps)):BG L tm a7 K (.build z ps) st:=by
 simp only[XE]at h;cases hd:DB z<;>simp only[hd,cond_true,cond_false]at h;obtain ⟨cs,h1,h2⟩:=fZ hr h;refine BG.val hr (.agg cs) (λ C => ?_) h2;rw[HO hd]at h1;simp only[c5,h1];rfl
theorem fP : ∀ l:List AM,NH tm l=l.map (ex tm)
 | []=>rfl
 | x::r=>by rw[NH,fP r];rfl
theorem cU : ∀ {es:List (List AV)},RN es=true -> ∀ e∈es,DB e=true
 | e0::r,h,e,he=>by
  simp only[RN]at h;cases h1:DB e0<;>simp only[h1,cond_true,cond_false]at h
  ·cases h
  ·rcases List.mem_cons.1 he with rfl|he
   ·exact h1
   ·exact cU h e he
theorem rO {es:List (List AV)} (h : ∀ e∈es,DB e=true):(es.map λ cs=>cs.map (A0 σ))=es:=by
 conv=>rhs;rw[<-List.map_id es]
 exact List.map_congr_left λ e he=>HO (h e he)
theorem zL {es:List (List AV)} {K:Nat->Prop} (h:YI es K):K es.length:=by
 unfold YI at h;split at h<;>exact h
theorem bW (hr:RX σ tm M st) {z:Nat} : ∀ {l:List AM} {K:List (List AV)->Prop},WL tm z l K -> ∃ es,l.mapM (λ x=>cellsOf (st.ev x))=some (es.map λ cs=>cs.map (A0 σ))/\(∀ e∈es,e.length=z)/\(∀ k,GO k tm=false->NT k es=false)/\K es
 | [],K,h=>⟨[],rfl,(λ e he=>by cases he),λ_ _=>rfl,h⟩
 | x::r,K,h=>by
  obtain ⟨h0,cs,hc,h⟩:=UH (show fC (ex tm x) λ cs=>bif Nat.beq cs.length z then WL tm z r λ es=>K (cs::es) else False from h);cases hz:Nat.beq cs.length z<;>simp only[hz,cond_true,cond_false]at h;obtain ⟨es,h1,h2,h4,h3⟩:=bW hr h;refine ⟨cs::es,?_,λ e he => ?_,λ k hk => ?_,h3⟩
  ·rw[List.mapM_cons,h1,hr.ev rfl h0,ND hc];rfl
  ·rcases List.mem_cons.1 he with rfl|he
   ·exact BI.1 hz
   ·exact h2 e he
  ·simp only[NT,kB (fQ hk x) hc,cond_false,h4 k hk]
theorem uM (hr:RX σ tm M st) {xs:List AM} (h : ∀ v∈NH tm xs,v ≠ .any):xs.map st.ev=(NH tm xs).map (A7 σ):=by
 rw[fP]at h ⊢;rw[List.map_map];exact List.map_congr_left λ x hx=>hr.ev rfl (h _ (List.mem_map_of_mem hx))
theorem oW {s z:Nat} {ps:List AM} (hr:RX σ tm M st) (h:XE L tm M a7 K (.b9 s z ps)):BG L tm a7 K (.b9 s z ps) st:=by
 simp only[XE]at h;cases di:D5 s<;>simp only[di,cond_true,cond_false]at h;obtain ⟨es,g1,g2,g3,h⟩:=bW hr h;obtain ⟨k,h1,h2,h3⟩:=HM (zL h);have key : ∀ c:A4,c.flat->GN k c=false->c.c7 σ k=⟨z,es.map λ cs=>cs.map (A0 σ)⟩->K (.row k 0 z 0 es.length) ((k,s,c)::M)->BG L tm a7 K (.b9 s z ps) st:=by
  intro c hf hc hb hk;refine ⟨.new s (c.c7 σ k) (λ t => .row s t z 0 es.length),_,_,_,λ C => ?_,hk,?_,hr.dc h1 h2 c hf hc (λ_=>di)⟩
  ·simp only[c5,g1,hb]
   rw[if_pos (λ e he=>by obtain ⟨e',cw,rfl⟩:=List.mem_map.1 he;simpa using g2 e' cw)];simp only[List.length_map]
  ·simp only[BM.res,C0,BK]
 cases hd:RN es<;>simp only[hd,cond_true,cond_false]at h3
 ·exact key (.bs z es) trivial (g3 k h2) rfl h3
 ·exact key (.rw z es) trivial rfl (by simp only[A4.c7];rw[rO (cU hd)]) h3
theorem pA {x:AM} {off:Nat} (hr:RX σ tm M st) (h:XE L tm M a7 K (.m4 x off)):BG L tm a7 K (.m4 x off) st:=by
 simp only[XE]at h;split at h
 ·rename_i key t i j e
  exact BG.val hr _ (λ C=>by simp only[c5,hr.ev e (by intro e;cases e),GD,F2,GP,C0,DK,HS,E2,HJ,HK]) h
 ·rename_i cs e
  rw[F7]at h;exact BG.val hr _ (λ C=>by simp only[c5,hr.ev e (by intro e;cases e),GD,F2,GP,C0,DK,HS,E2,HJ,HK]) h
 ·exact h.elim
theorem pB {x:AM} {off n:Nat} {agg:Bool} (hr:RX σ tm M st) (h:XE L tm M a7 K (.gu x off n agg)):BG L tm a7 K (.gu x off n agg) st:=by
 simp only[XE]at h;split at h
 ·rename_i cs e
  split at h
  ·rename_i ds hp
   rw[F7]at h;obtain ⟨v,h1,h2⟩:=NQ σ h;exact BG.val hr v (λ C=>by simp only[c5,hr.ev e (by intro e;cases e),HJ,U3 hp,h1,Option.map_some]) h2
  ·exact h.elim
 ·exact h.elim
theorem pD {arr:Option Nat} {z:Nat} {x i:AM} (hr:RX σ tm M st) (h:XE L tm M a7 K (.o6 arr z x i)):BG L tm a7 K (.o6 arr z x i) st:=by
 simp only[XE]at h;split at h
 ·rename_i kd n e1
  split at h
  ·rename_i len key t i' j e2
   obtain ⟨h1,h2⟩:=h;exact BG.val hr _ (λ C=>by simp only[c5,hr.ev e1 (by intro e;cases e),hr.ev e2 (by intro e;cases e),GD,F2,GP,C0,DK,HS,E2,HJ,HK];rw[if_pos h1]) h2
  ·rename_i len cs e2
   obtain ⟨h1,h2⟩:=h;rw[F7]at h2;exact BG.val hr _ (λ C=>by simp only[c5,hr.ev e1 (by intro e;cases e),hr.ev e2 (by intro e;cases e),GD,F2,GP,C0,DK,HS,E2,HJ,HK];rw[if_pos h1]) h2
  ·rename_i key t z' off len e2
   cases hz:Nat.beq z' z<;>simp only[hz,cond_true,cond_false]at h;obtain ⟨h1,h2⟩:=h;exact BG.val hr _ (λ C=>by simp only[c5,hr.ev e1 (by intro e;cases e),hr.ev e2 (by intro e;cases e),GD,F2,GP,C0,DK,HS,E2,HJ,HK];rw[if_pos ⟨h1.1,h1.2,BI.1 hz⟩]) h2
  ·rename_i q es e2
   obtain ⟨h1,cs,h2,h3,h4⟩:=h;exact BG.val hr _ (λ C=>by simp only[c5,hr.ev e1 (by intro e;cases e),hr.ev e2 (by intro e;cases e),GD,F2,GP,C0,DK,HS,E2,HJ,HK,h2];rw[if_pos h1,if_pos h3]) h4
  ·exact h.elim
 ·exact h.elim
theorem QM {s:Nat} {own:AE} : ∀ {a7:List Nat},NR s a7=true->own.j9 a7 s=own s
 | [],_=>rfl
 | b::r,h=>by
  have hm:MS s (b::r)=false:=by simpa [NR] using h
  have : ∀ l:List Nat,MS s l=false->own.j9 l s=own s:=by
   intro l;induction l with
   | nil=>intro _;rfl
   | cons b r ih =>
    intro h;simp only[MS]at h;cases hb:Nat.beq s b<;>simp only[hb,cond_true,cond_false]at h
    ·simp only[AE.j9]
     rw[if_neg (EL.1 hb)];exact ih h
    ·cases h
  exact this _ hm
theorem YT {s:Nat} {own:AE} (hs:D5 s=true) : ∀ {a7:List Nat},O4 a7=true->own.j9 a7 s=own s
 | [],_=>rfl
 | b::r,h=>by
  simp only[O4]at h;cases hb:D5 b<;>simp only[hb,cond_true,cond_false]at h
  ·have k7:s≠b:=λ e=>by rw[e,hb]at hs;cases hs
   show (if s=b then _ else own.j9 r s)=own s;rw[if_neg k7];exact YT hs h
  ·cases h
theorem pF {agg:Bool} {n:Nat} {x:AM} (hr:RX σ tm M st) (h:XE L tm M a7 K (.ld agg n x)):BG L tm a7 K (.ld agg n x) st:=by
 simp only[XE]at h;split at h
 ·rename_i key t i j e
  split at h
  ·rename_i s c hm
   have hs:=hr.sat.site _ _ _ hm;split at h
   ·cases hb:NR s a7<;>simp only[hb,cond_true,cond_false]at h
    have u5:=hr.sat.c7 _ _ _ (D6 hm);rw[hs]at u5;split at h
    ·rename_i cs
     cases hi:Nat.beq i 0<;>simp only[hi,cond_true,cond_false]at h;obtain rfl:=BI.1 hi;split at h
     ·rename_i ds hp
      rw[F7]at h;obtain ⟨v,h1,h2⟩:=NQ σ h;exact BG.val hr v (λ C=>by
       simp only[c5,hr.ev e (by intro e;cases e),DK,AE.ja,AE.get,hs];rw[QM hb,u5];simp only[A4.c7,List.getElem?_cons_zero,U3 hp,h1,Option.map_some]) h2
     ·exact h.elim
    ·rename_i z es
     obtain ⟨cs,ds,g1,g2,h⟩:=h;rw[F7]at h;cases hd:DB ds<;>simp only[hd,cond_true,cond_false]at h;obtain ⟨v,h1,h2⟩:=NQ σ h;rw[HO hd]at h1;exact BG.val hr v (λ C=>by
      simp only[c5,hr.ev e (by intro e;cases e),DK,AE.ja,AE.get,hs];rw[QM hb,u5];simp only[A4.c7,g1,g2,h1,Option.map_some]) h2
    ·rename_i z es
     split at h
     ·rename_i cs g1
      split at h
      ·rename_i ds hp
       rw[F7]at h;obtain ⟨v,h1,h2⟩:=NQ σ h;exact BG.val hr v (λ C=>by
        simp only[c5,hr.ev e (by intro e;cases e),DK,AE.ja,AE.get,hs];rw[QM hb,u5];simp only[A4.c7,List.getElem?_map,g1,Option.map_some,U3 hp,h1]) h2
      ·exact h.elim
     ·exact h.elim
    ·rename_i rows
     cases hj:Nat.beq j 0<;>simp only[hj,cond_true,cond_false]at h;cases hn:Nat.beq n 1<;>simp only[hn,cond_true,cond_false]at h;obtain rfl:=BI.1 hj;obtain rfl:=BI.1 hn;obtain ⟨r,g1,h⟩:=h;have fin : ∀ c:AV,(BU σ key 0 rows)[i]? = some [A0 σ c]->jt agg [c] (λ v=>K v M)->BG L tm a7 K (.ld agg 1 x) st:=by
      intro c hc h;obtain ⟨v,h1,h2⟩:=NQ σ h;have hp:part [A0 σ c] 0 1=some [A0 σ c]:=by simp [part]
      exact BG.val hr v (λ C=>by
       simp only[c5,hr.ev e (by intro e;cases e),DK,AE.ja,AE.get,hs];rw[QM hb,u5];simp only[A4.c7,hc,hp];simp only[List.map_cons,List.map_nil]at h1;simp only[h1,Option.map_some]) h2
     split at h
     ·rename_i z es
      exact fin _ (by rw[FY,g1];simp [A0]) h
     ·exact fin _ (by rw[FY,g1];simp [A0]) h
    ·exact h.elim
    ·exact h.elim
   ·rename_i i'
    split at h
    ·rename_i rows
     obtain ⟨z,es,g0,cs,ds,g1,g2,h⟩:=h;rw[F7]at h;cases hd:DB ds<;>simp only[hd,cond_true,cond_false]at h;obtain ⟨v,h1,h2⟩:=NQ σ h;rw[HO hd]at h1;have u5:=hr.sat.c7 key (i'+1) (.rw z es) (by simp [b7,hm,g0]);exact BG.val hr v (λ C=>by
      simp only[c5,hr.ev e (by intro e;cases e),DK,AE.ja,AE.get,AE.j9];rw[u5];simp only[A4.c7,g1,g2,h1,Option.map_some]) h2
    ·rename_i rows b r
     cases hb:O4 (b::r)<;>simp only[hb,cond_true,cond_false]at h;obtain ⟨z,es,g0,cs,ds,g1,g2,h⟩:=h;rw[F7]at h;cases hd:DB ds<;>simp only[hd,cond_true,cond_false]at h;obtain ⟨v,h1,h2⟩:=NQ σ h;rw[HO hd]at h1;have g':b7 M key (i'+1)=some (.rw z es):=by simp [b7,hm,g0]
     have u5:=hr.sat.c7 key (i'+1) (.rw z es) g';have di:=hr.sat.low key (i'+1) _ g' rfl;exact BG.val hr v (λ C=>by
      simp only[c5,hr.ev e (by intro e;cases e),DK,AE.ja,AE.get];rw[YT di hb,u5];simp only[A4.c7,g1,g2,h1,Option.map_some]) h2
    ·exact h.elim
  ·exact h.elim
 ·rename_i cs e
  split at h
  ·rename_i ds hp
   rw[F7]at h;cases hd:DB ds<;>simp only[hd,cond_true,cond_false]at h;obtain ⟨v,h1,h2⟩:=NQ σ h;rw[HO hd]at h1;exact BG.val hr v (λ C=>by simp only[c5,hr.ev e (by intro e;cases e),HS,hp,h1,Option.map_some]) h2
  ·exact h.elim
 ·exact h.elim
theorem bD {n:Nat} {x v:AM} (hr:RX σ tm M st) (h:XE L tm M a7 K (.st n x v)):BG L tm a7 K (.st n x v) st:=by
 simp only[XE,ZZ]at h;split at h
 ·rename_i key t i j e
  obtain ⟨h0,vs,hc,h5⟩:=UH h;clear h;cases hn:Nat.beq vs.length n<;>simp only[hn,cond_true,cond_false]at h5;have mw:=BI.1 hn;split at h5
  ·rename_i s c hm
   have hs:=hr.sat.site _ _ _ hm;split at h5
   ·have u5:=hr.sat.c7 _ _ _ (D6 hm)
    rw[hs]at u5;split at h5
    ·rename_i cs
     cases hi:Nat.beq i 0<;>simp only[hi,cond_true,cond_false]at h5;obtain rfl:=BI.1 hi;have hl:Nat.ble (j+vs.length) cs.length=true:=by
      cases hl:Nat.ble (j+vs.length) cs.length
      ·rw[hl]at h5;exact h5.elim
      ·rfl
     rw[hl]at h5;simp only[cond_true,F7]at h5;refine ⟨.aj (.e7 []) (st.own.put s ((st.own s).m9 (σ key 0).2 (some (A4.c7 σ key (.bx (splice cs j vs)))))),σ,_,_,λ C => ?_,h5,rfl,hr.Fb hm trivial _ trivial (λ h=>nomatch h)⟩;simp only[c5,hr.ev e (by intro e;cases e),DK,hr.ev rfl h0,ND hc,List.length_map];rw[if_pos mw];simp only[AE.gp,AE.get,hs,u5,A4.c7,List.getElem?_cons_zero,List.length_map];rw[if_pos (Nat.le_of_ble_eq_true hl)];simp only[Option.map_some,List.set_cons_zero,lA];have:(splice cs j vs).length=cs.length:=by
      have:=Nat.le_of_ble_eq_true hl
      simp only[splice,List.length_append,List.length_take,List.length_drop];omega
     rw[this]
    ·rename_i z es
     cases hd:DB vs<;>simp only[hd,cond_true,cond_false]at h5;obtain ⟨cs,g1,g2,h5⟩:=h5;refine ⟨.aj (.e7 []) (st.own.put s ((st.own s).m9 (σ key 0).2 (some (A4.c7 σ key (.rw z (es.set i (splice cs j vs))))))),σ,_,_,λ C => ?_,h5,rfl,hr.Fb hm trivial _ trivial (λ_=>rfl)⟩;simp only[c5,hr.ev e (by intro e;cases e),DK,hr.ev rfl h0,ND hc,HO hd];rw[if_pos mw];simp only[AE.gp,AE.get,hs,u5,A4.c7,g1];rw[if_pos g2];rfl
    ·exact h5.elim
    ·rename_i rows
     split at h5
     ·rename_i v9 z m
      cases iv:Nat.beq key v9<;>simp only[iv,cond_true,cond_false]at h5;cases w8:L0 key tm<;>simp only[w8,cond_true,cond_false]at h5;cases mh:IM key M<;>simp only[mh,cond_true,cond_false]at h5;cases hj:Nat.beq j 0<;>simp only[hj,cond_true,cond_false]at h5;obtain rfl:=BI.1 hj;split at h5
      ·rename_i s2 z' es ep
       cases hz:Nat.beq z z'<;>simp only[hz,cond_true,cond_false]at h5;obtain rfl:=BI.1 hz;rw[MO]at h5;obtain ⟨rfl,hi,h5⟩:=h5;have hlen:(BU σ key 0 rows)[i]? = some ((BU σ key 0 rows)[i]'(by rw[EZ];exact hi)):=zE _;have dv:((BU σ key 0 rows)[i]'(by rw[EZ];exact hi)).length=1:=by
        have:=FY (σ:=σ) (k:=key) rows 0 i
        rw[hlen,zE hi]at this;simp only[Option.map_some,Option.some.injEq]at this;rw[this];split<;>rfl
       refine ⟨.aj (.e7 []) (st.own.put s ((st.own s).m9 (σ key 0).2 (some ⟨1,(BU σ key 0 rows).set i [.row (σ v9 0).1 (σ v9 0).2 z 0 es.length]⟩))),_,_,_,λ C => ?_,h5,rfl,hr.um hm (Or.inl rfl) ep (EL.1 iv) w8 mh hi⟩;simp only[c5,hr.ev e (by intro e;cases e),DK,hr.ev rfl h0,ND hc,List.length_map];rw[if_pos mw];simp only[AE.gp,AE.get,hs,u5,A4.c7,hlen,List.map_cons,List.map_nil,List.length_cons,List.length_nil,A0];rw[if_pos (by omega)];simp only[Option.map_some];have Pg:splice ((BU σ key 0 rows)[i]'(by rw[EZ];exact hi)) 0 [.row (σ v9 0).1 (σ v9 0).2 z 0 es.length]=[.row (σ v9 0).1 (σ v9 0).2 z 0 es.length]:=by
        simp only[splice,List.take_zero,List.nil_append,List.length_cons,List.length_nil,Nat.zero_add];rw[List.drop_of_length_le (by omega)];rfl
       rw[Pg]
      ·exact h5.elim
     ·exact h5.elim
    ·rename_i i0 v0 rows
     split at h5
     ·rename_i v9 z m
      cases iv:Nat.beq key v9<;>simp only[iv,cond_true,cond_false]at h5;cases w8:L0 key tm<;>simp only[w8,cond_true,cond_false]at h5;cases mh:IM key M<;>simp only[mh,cond_true,cond_false]at h5;cases hj:Nat.beq j 0<;>simp only[hj,cond_true,cond_false]at h5;obtain rfl:=BI.1 hj;split at h5
      ·rename_i s2 z' es ep
       cases hz:Nat.beq z z'<;>simp only[hz,cond_true,cond_false]at h5;obtain rfl:=BI.1 hz;rw[MO]at h5;obtain ⟨⟨rfl,rfl⟩,hi,h5⟩:=h5;refine ⟨.aj (.e7 []) (st.own.put s ((st.own s).m9 (σ key 0).2 (some ⟨1,(BU σ key 0 rows).set i [.row (σ v9 0).1 (σ v9 0).2 z 0 es.length]⟩))),_,_,_,λ C => ?_,h5,rfl,hr.um hm (Or.inr ⟨v0,rfl⟩) ep (EL.1 iv) w8 mh hi⟩;simp only[c5,hr.ev e (by intro e;cases e),DK,hr.ev rfl h0,ND hc,List.length_map];rw[if_pos mw];simp only[AE.gp,AE.get,hs,u5,A4.c7,List.getElem?_set_self (show i<(BU σ key 0 rows).length by rw[EZ];exact hi),List.map_cons,List.map_nil,List.length_cons,List.length_nil,A0];rw[if_pos (by omega)];simp only[Option.map_some,List.set_set];rfl
      ·exact h5.elim
     ·exact h5.elim
    ·exact h5.elim
   ·rename_i i'
    split at h5
    ·rename_i rows
     cases hd:DB vs<;>simp only[hd,cond_true,cond_false]at h5;obtain ⟨z,es,g0,cs,g1,g2,g3,h5⟩:=h5;have u5:=hr.sat.c7 key (i'+1) (.rw z es) (by simp [b7,hm,g0]);refine ⟨.aj (.e7 []) (st.own.put (σ key (i'+1)).1 ((st.own (σ key (i'+1)).1).m9 (σ key (i'+1)).2 (some ⟨z,es.set i (splice cs j vs)⟩))),σ,_,_,λ C => ?_,h5,rfl,hr.Ez hm g0 g3⟩;simp only[c5,hr.ev e (by intro e;cases e),DK,hr.ev rfl h0,ND hc,HO hd];rw[if_pos mw];simp only[AE.gp,AE.get,u5,A4.c7,g1];rw[if_pos g2];rfl
    ·exact h5.elim
  ·exact h5.elim
 ·exact h.elim
theorem pH {s z bytes:Nat} {zero:List AV} {a c:AM} (hr:RX σ tm M st) (h:XE L tm M a7 K (.mk s z bytes zero a c)):BG L tm a7 K (.mk s z bytes zero a c) st:=by
 simp only[XE]at h;split at h
 ·rename_i k1 p k2 q e1 e2
  cases hz:Nat.beq zero.length z<;>simp only[hz,cond_true,cond_false]at h;cases hd:DB zero<;>simp only[hd,cond_true,cond_false]at h;split at h
  ·cases di:D5 s<;>simp only[di,cond_true,cond_false]at h
   obtain ⟨⟨g1,g2,g3,g4⟩,h⟩:=h;obtain ⟨k,h1,h2,h3⟩:=HM h;have dt:A4.flat (.mx (List.replicate p.toNat none)):=by
    intro i x hx;have:=List.getElem?_replicate (n:=p.toNat) (a:=(none:Option (Nat × List (List AV)))) (i:=i)
    rw[this]at hx;split at hx<;>cases hx
   have ea:z=1:=(BI.1 hz).symm;have jm:A4.c7 σ k (.mx (List.replicate p.toNat none))=⟨z,List.replicate p.toNat [.nil]⟩:=by
    simp only[A4.c7,ea];congr 1;have : ∀ (n i:Nat),BU σ k i (List.replicate n none)=List.replicate n [AV.nil]:=by
     intro n;induction n with
     | zero=>intro i;rfl
     | succ n ih=>intro i;rw[List.replicate_succ,List.replicate_succ,BU,ih]
    exact this _ _
   refine ⟨.new s (A4.c7 σ k (.mx (List.replicate p.toNat none))) (λ t => .row s t z 0 p.toNat),_,_,_,λ C => ?_,h3,?_,hr.dc h1 h2 (.mx _) dt rfl (λ_=>di)⟩
   ·simp only[c5,hr.ev e1 (by intro e;cases e),hr.ev e2 (by intro e;cases e),GD,jm]
    rw[if_pos ⟨g1,g2,g3,g4,BI.1 hz⟩]
   ·simp only[BM.res,C0,BK]
  ·cases di:D5 s<;>simp only[di,cond_true,cond_false]at h
   obtain ⟨⟨g1,g2,g3,g4⟩,h⟩:=h;obtain ⟨k,h1,h2,h3⟩:=HM h;refine ⟨.new s ⟨z,List.replicate p.toNat zero⟩ (λ t => .row s t z 0 p.toNat),_,_,_,λ C => ?_,h3,?_,hr.dc h1 h2 (.rw z _) trivial rfl (λ_=>di)⟩
   ·simp only[c5,hr.ev e1 (by intro e;cases e),hr.ev e2 (by intro e;cases e),GD]
    rw[if_pos ⟨g1,g2,g3,g4,BI.1 hz⟩]
   ·simp only[BM.res,C0,BK]
 ·exact h.elim
theorem fR {v:AV} {K:AV->Prop} (h:f2 v K):v ≠ .any/\A7 σ v=BC σ v/\K v:=by
 cases v<;>simp only[f2,F7]at h<;>first|exact h.elim|exact ⟨(by intro e;cases e),rfl,h⟩
theorem iC : ∀ (vs:List AV) (i:Nat),pt vs i ≠ .any->vs[i]? = some (pt vs i)
 | [],_,h=>absurd rfl h
 | _::_,0,_=>rfl
 | _::r,i+1,h=>iC r i h
theorem oZ {x:AM} {i:Nat} (hr:RX σ tm M st) (h:XE L tm M a7 K (.ext x i)):BG L tm a7 K (.ext x i) st:=by
 simp only[XE]at h;split at h
 ·rename_i vs e
  obtain ⟨h1,h2,h3⟩:=fR (σ:=σ) h;refine BG.val hr _ (λ C => ?_) h3;simp only[c5,hr.ev e (by intro e;cases e),HK,List.getElem?_map,iC vs i h1,Option.map_some,h2]
 ·exact h.elim
theorem pG {x:AM} (hr:RX σ tm M st) (h:XE L tm M a7 K (.len x)):BG L tm a7 K (.len x) st:=by
 simp only[XE]at h;split at h
 ·rename_i q es e
  exact BG.val hr _ (λ C=>by simp only[c5,hr.ev e (by intro e;cases e),GP,MQ];rfl) h.h
 ·rename_i e
  exact BG.val hr _ (λ C=>by simp only[c5,hr.ev e (by intro e;cases e),E2,MQ];rfl) h
 ·rename_i e
  exact BG.val hr _ (λ C=>by simp only[c5,hr.ev e (by intro e;cases e),C0,MQ];rfl) h
 ·exact h.elim
theorem iX {mx:Bool} {k:IntKind} {K:AV->Prop} : ∀ {l:List AV} {a:Int},O2 mx k K a l -> ∃ n,IU mx (.int k a) l=some (.int k n)/\K (.int k n)/\(∀ v∈l,v ≠ .any/\A7 σ v=v)
 | [],a,h=>⟨a,rfl,h,λ v hv=>by cases hv⟩
 | v::r,a,h=>by
  cases v with
  | int k' b =>
   have h:(bif mx then AF (a<b) (b<=a) (O2 mx k K b r) (O2 mx k K a r) else AF (b<a) (a<=b) (O2 mx k K b r) (O2 mx k K a r)):=h;have fin : ∀ c:Int,MT mx (.int k a) (.int k' b)=some (.int k c)->O2 mx k K c r -> ∃ n,IU mx (.int k a) (.int k' b::r)=some (.int k n)/\K (.int k n)/\(∀ v∈AV.int k' b::r,v ≠ .any/\A7 σ v=v):=by
    intro c hc hx;obtain ⟨n,h1,h2,h3⟩:=iX hx;refine ⟨n,by simp only[IU,hc,h1],h2,λ v hv => ?_⟩;rcases List.mem_cons.1 hv with rfl|hv
    ·exact ⟨(by intro e;cases e),rfl⟩
    ·exact h3 v hv
   cases mx
   ·simp only[cond_false]at h
    by_cases hc:b<a
    ·exact fin b (by simp [MT,hc]) (h.1 hc)
    ·exact fin a (by simp [MT,hc]) (h.2 (by omega))
   ·simp only[cond_true]at h
    by_cases hc:a<b
    ·exact fin b (by simp [MT,hc]) (h.1 hc)
    ·exact fin a (by simp [MT,hc]) (h.2 (by omega))
  | _=>exact (h:False).elim
theorem pJ {mx:Bool} {xs:List AM} (hr:RX σ tm M st) (h:XE L tm M a7 K (.mm mx xs)):BG L tm a7 K (.mm mx xs) st:=by
 simp only[XE]at h;split at h
 ·rename_i k a r e
  obtain ⟨n,h1,h2,h3⟩:=iX (σ:=σ) h;refine BG.val hr (.int k n) (λ C => ?_) h2;have hx : ∀ v∈NH tm xs,v ≠ .any:=by
   rw[e];intro v hv;rcases List.mem_cons.1 hv with rfl|hv
   ·intro e;cases e
   ·exact (h3 v hv).1
  have hm:(NH tm xs).map (A7 σ) = .int k a::r:=by
   rw[e,List.map_cons];congr 1;conv=>rhs;rw[<-List.map_id r]
   exact List.map_congr_left λ v hv=>(h3 v hv).2
  simp only[c5];rw[show xs.map st.ev = .int k a::r from (uM hr hx).trans hm];simp only[h1,Option.map_some,GD]
 ·exact h.elim
theorem Jh (hr:RX σ tm M st) {k t:Nat} {K:Nat->List (List AV)->Prop} (h:ZJ M k t K) : ∃ z es,(st.own (σ k t).1).c7 (σ k t).2=some ⟨z,es⟩/\K z es:=by
 unfold ZJ at h;split at h
 ·rename_i s c hm
  split at h
  ·split at h
   ·exact ⟨_,_,hr.sat.c7 _ _ _ (D6 hm),h⟩
   ·exact h.elim
  ·rename_i i
   split at h
   ·rename_i rows
    obtain ⟨z,es,g,h⟩:=h;exact ⟨z,es,hr.sat.c7 k (i+1) (.rw z es) (by simp [b7,hm,g]),h⟩
   ·exact h.elim
 ·exact h.elim
theorem Lu {own j7:AE} {s t i j:Nat} {vs:List AV} (h:own.gp s t i j vs=some j7):own.put s (j7 s)=j7:=by
 unfold AE.gp at h;cases hg:own.get s t with
 | none=>simp [hg]at h
 | some b =>
  simp only[hg]at h;cases he:b.es[i]? with
  | none=>simp [he]at h
  | some cs =>
   simp only[he]at h;split at h
   ·obtain rfl:=Option.some.inj h
    rw[AE.g7]
   ·cases h
theorem pO {s n:Nat} {x v:AM} (hr:RX σ tm M st) (h:XE L tm M a7 K (.il s n x v)):BG L tm a7 K (.il s n x v) st:=by
 simp only[XE]at h;split at h
 ·rename_i key i j e1
  split at h
  ·rename_i s' c hm
   cases hb:Nat.beq s' s<;>simp only[hb,cond_true,cond_false]at h;obtain rfl:=BI.1 hb;have ay:=hr.sat.site _ _ _ hm;obtain ⟨E,σ',v',M',h1,h2,h3,h4⟩:=bD (a7:=a7) (L:=L) hr (show XE L tm M a7 K (.st n x v) from h);have w3:=hr.ev e1 (by intro e;cases e);rw[DK,ay]at w3;have key : ∀ vs,cellsOf (st.ev v)=some vs->vs.length=n -> ∃ o',st.own.gp s' (σ key 0).2 i j vs=some o'/\E = .aj (.e7 []) o':=λ vs bq hn=>by
    have:=h1 0
    simp only[c5,w3,bq]at this;rw[if_pos hn,Option.map_eq_some_iff]at this;obtain ⟨o',a1,a2⟩:=this;exact ⟨o',a1,a2.symm⟩
   cases bq:cellsOf (st.ev v) with
   | none=>have:=h1 0;simp [c5,w3,bq]at this
   | some vs =>
    by_cases hn:vs.length=n
    ·obtain ⟨o',a1,rfl⟩:=key vs bq hn
     refine ⟨.m9 s' (o' s'),σ',v',M',λ C => ?_,h2,h3,?_⟩
     ·simp only[c5,w3,bq]
      rw[if_pos ⟨trivial,hn⟩,a1];rfl
     ·have e2:(BM.res st.own (.m9 s' (o' s'))).2=o':=Lu a1
      rw[e2];exact h4
    ·have:=h1 0
     simp only[c5,w3,bq]at this;rw[if_neg hn]at this;cases this
  ·exact h.elim
 ·exact h.elim
theorem pE {ne:Bool} {x:AM} (hr:RX σ tm M st) (h:XE L tm M a7 K (.kn ne x)):BG L tm a7 K (.kn ne x) st:=by
 simp only[XE]at h;split at h
 ·rename_i e1
  rw[NI]at h;exact BG.val hr _ (λ C=>by simp only[c5,hr.ev e1 (by intro e;cases e),E2,F2]) h
 ·rename_i b e1
  rw[NI]at h;exact BG.val hr _ (λ C=>by simp only[c5,hr.ev e1 (by intro e;cases e),Hz,F2]) h
 ·rename_i q es e1
  obtain ⟨h0,h⟩:=h;rw[NI]at h;cases es with
  | nil=>exact absurd rfl h0
  | cons e es=>exact BG.val hr _ (λ C=>by simp only[c5,hr.ev e1 (by intro e;cases e),GP,F2]) h
 ·rename_i s t z o n e1
  obtain ⟨h0,h⟩:=h;rw[NI]at h;cases n with
  | zero=>exact absurd h0 (by omega)
  | succ n=>exact BG.val hr _ (λ C=>by simp only[c5,hr.ev e1 (by intro e;cases e),C0,F2]) h
 ·exact h.elim
theorem pM {tb:List Nat} {x:AM} (hr:RX σ tm M st) (h:XE L tm M a7 K (.bn tb x)):BG L tm a7 K (.bn tb x) st:=by
 simp only[XE]at h;split at h
 ·rename_i k n e1
  obtain ⟨h0,v,h1,h2⟩:=h;exact BG.val hr _ (λ C=>by simp only[c5,hr.ev e1 (by intro e;cases e),GD,h1];rw[if_pos h0]) h2
 ·exact h.elim
theorem wS {v:AV} {K:AV->Prop} (h:fF v K):v ≠ .any/\FQ (A7 σ v)=some (A0 σ v)/\K v:=by
 cases v<;>first|exact (h:False).elim|exact ⟨(by intro e;cases e),rfl,h⟩
theorem jG (hr:RX σ tm M st) : ∀ {l:List AM} {K:List AV->Prop},YQ tm l K -> ∃ cs,l.mapM (λ x=>FQ (st.ev x))=some (cs.map (A0 σ))/\K cs
 | [],K,h=>⟨[],rfl,h⟩
 | x::r,K,h=>by
  obtain ⟨h0,hc,h⟩:=wS (σ:=σ) (show fF (ex tm x) λ v=>YQ tm r λ cs=>K (v::cs) from h);obtain ⟨cs,h1,h2⟩:=jG hr h;refine ⟨ex tm x::cs,?_,h2⟩;rw[List.mapM_cons,h1,hr.ev rfl h0,hc];rfl
theorem pI {p:Bool} {f:Nat} {xs:List AM} (hr:RX σ tm M st) (h:XE L tm M a7 K (.jb p f xs)):BG L tm a7 K (.jb p f xs) st:=by
 simp only[XE]at h;obtain ⟨cs,h1,h2⟩:=jG hr h;exact BG.val hr _ (λ C=>by simp only[c5,h1,Option.map_some,VH,List.isEmpty_map];rfl) h2
theorem uF (hr:RX σ tm M st) {v:AV} {K:List (List AV)->Prop} (h:UC M v K):v ≠ .any /\ ∃ es,DS st.own (A7 σ v)=some es/\K es:=by
 cases v with
 | sl q es=>exact ⟨(by intro e;cases e),_,rfl,h⟩
 | nil=>exact ⟨(by intro e;cases e),_,rfl,h⟩
 | w6 v =>
  cases v with
  | bool b=>exact ⟨(by intro e;cases e),_,rfl,h⟩
  | _=>exact (h:False).elim
 | row key t z off len =>
  simp only[UC]at h;obtain ⟨z',es,g,h⟩:=Jh hr h;cases hz:Nat.beq z z'<;>simp only[hz,cond_true,cond_false]at h;obtain rfl:=BI.1 hz;refine ⟨(by intro e;cases e),_,?_,h.2⟩;simp only[C0,DS,AE.get,g];rw[if_pos ⟨h.1,trivial⟩]
 | _=>exact (h:False).elim
theorem YR (hr:RX σ tm M st) {o:Option AM} {K:Option Int->Prop} (h:UX tm o K):(o=none/\K none) \/ ∃ x k n,o=some x/\st.ev x = .int k n/\K (some n):=by
 unfold UX at h;split at h
 ·exact Or.inl ⟨rfl,h⟩
 ·split at h
  ·rename_i e
   exact Or.inr ⟨_,_,_,rfl,hr.ev e (by intro e;cases e),h⟩
  ·exact h.elim
theorem pN {z:Nat} {x:AM} {lo hi:Option AM} (hr:RX σ tm M st) (h:XE L tm M a7 K (.de z x lo hi)):BG L tm a7 K (.de z x lo hi) st:=by
 simp only[XE]at h;have go : ∀ (a b:Option Int),(match ex tm x with
   | .sl l es=>CK z es a b λ es=>K (.sl l es) M
   | .row key t z' off len=>bif Nat.beq z' z then BP a b len λ a h=>K (.row key t z (off+a) (h-a)) M else False
   | .nil=>(match a,b with
    | none,none=>K .nil M
    | some a,none=>AX (a=0) (K .nil M)
    | none,some h=>AX (h=0) (K .nil M)
    | some a,some h=>AX (a=0/\h=0) (K .nil M))
   | _=>False)->(lo=none/\a=none \/ ∃ y k n,lo=some y/\st.ev y = .int k n/\a=some n)->(hi=none/\b=none \/ ∃ y k n,hi=some y/\st.ev y = .int k n/\b=some n)->BG L tm a7 K (.de z x lo hi) st:=by
  intro a b h ha hb;split at h
  ·rename_i q es e
   obtain ⟨g1,a',h',g2,g3,g4,h⟩:=h;refine BG.val hr _ (λ C => ?_) h;rcases ha with ⟨rfl,rfl⟩|⟨y,k,n,rfl,e1,rfl⟩<;>rcases hb with ⟨rfl,rfl⟩|⟨y',k',n',rfl,e2,rfl⟩<;>try simp only at g2 g3<;>simp only[c5,hr.ev e (by intro e;cases e),GP, *]<;>simp_all
  ·rename_i key t z' off len e
   cases hz:Nat.beq z' z<;>simp only[hz,cond_true,cond_false]at h;obtain rfl:=BI.1 hz;obtain ⟨a',h',g2,g3,g4,h⟩:=h;refine BG.val hr _ (λ C => ?_) h;rcases ha with ⟨rfl,rfl⟩|⟨y,k,n,rfl,e1,rfl⟩<;>rcases hb with ⟨rfl,rfl⟩|⟨y',k',n',rfl,e2,rfl⟩<;>try simp only at g2 g3<;>simp only[c5,hr.ev e (by intro e;cases e),C0, *]<;>simp_all
  ·rename_i e
   rcases ha with ⟨rfl,rfl⟩|⟨y,k,n,rfl,e1,rfl⟩<;>rcases hb with ⟨rfl,rfl⟩|⟨y',k',n',rfl,e2,rfl⟩<;>simp only at h
   ·exact BG.val hr .nil (λ C=>by simp only[c5,hr.ev e (by intro e;cases e),E2]) h
   ·exact BG.val hr .nil (λ C=>by simp only[c5,hr.ev e (by intro e;cases e),E2,e2,h.1,if_true]) h.2
   ·exact BG.val hr .nil (λ C=>by simp only[c5,hr.ev e (by intro e;cases e),E2,e1,h.1,if_true]) h.2
   ·exact BG.val hr .nil (λ C=>by simp only[c5,hr.ev e (by intro e;cases e),E2,e1,e2,h.1.1,h.1.2,if_true]) h.2
  ·exact h.elim
 rcases YR hr h with ⟨h1,h⟩|⟨y,k,n,h1,h2,h⟩
 ·rcases YR hr h with ⟨g1,h⟩|⟨y,k,n,g1,g2,h⟩
  ·exact go _ _ h (Or.inl ⟨h1,rfl⟩) (Or.inl ⟨g1,rfl⟩)
  ·exact go _ _ h (Or.inl ⟨h1,rfl⟩) (Or.inr ⟨_,_,_,g1,g2,rfl⟩)
 ·rcases YR hr h with ⟨g1,h⟩|⟨y',k',n',g1,g2,h⟩
  ·exact go _ _ h (Or.inr ⟨_,_,_,h1,h2,rfl⟩) (Or.inl ⟨g1,rfl⟩)
  ·exact go _ _ h (Or.inr ⟨_,_,_,h1,h2,rfl⟩) (Or.inr ⟨_,_,_,g1,g2,rfl⟩)
theorem ZF {s key:Nat} : ∀ {M:Mem},FR s M=false->FR s (m5 key M)=false
 | [],_=>rfl
 | (i,s0,c0)::r,h=>by
  simp only[FR]at h;cases q0:Nat.beq s i<;>simp only[q0,cond_true,cond_false]at h
  ·cases q1:GN s c0<;>simp only[q1,cond_true,cond_false]at h
   ·simp only[m5]
    cases Nat.beq key i
    ·simp only[cond_false,FR,q0,q1,ZF h]
    ·simp only[cond_true,ZF h]
   ·cases h
  ·cases h
theorem oS {s z bytes:Nat} {x y:AM} (hr:RX σ tm M st) (h:UC M (ex tm y) λ ys=>match ex tm x with
   | .row key 0 z' off len=>bif Nat.beq off 0 then bif Nat.beq z' z then (match b8 M key with
    | some (s',.rw bz es)=>bif Nat.beq bz z then fM (m5 key M) λ M'=>(BR es len ys z bytes λ es' n=>FU s tm M λ k=>K (.row k 0 z 0 n) ((k,s',.rw z es')::M')) else False
    | _=>False) else False else False
   | .row key (i+1) z' off len=>bif Nat.beq off 0 then bif Nat.beq z' z then (match b8 M key with
    | some (sk,.mx rows)=>fM (m5 key M) λ M'=>CE rows i λ bz es=>bif Nat.beq bz z then (BR es len ys z bytes λ es' n => ∀ s' v,FU s tm M λ k=>K (.row k 0 z 0 n) ((k,s',.rw z es')::(key,sk,.hx i v (rows.set i none))::M')) else False
    | _=>False) else False else False
   | .nil=>bif D5 s then CX ys z bytes λ es n=>FU s tm M λ k=>K (.row k 0 z 0 n) ((k,s,.rw z es)::M) else False
   | _=>False):BG L tm a7 K (.app s z bytes x y) st:=by
 obtain ⟨h0,ys,hy,h⟩:=uF hr h;have rk:DS st.own (st.ev y)=some ys:=by rw[hr.ev rfl h0];exact hy
 split at h
 ·rename_i key z' off len e
  cases ho:Nat.beq off 0<;>simp only[ho,cond_true,cond_false]at h;cases hz:Nat.beq z' z<;>simp only[hz,cond_true,cond_false]at h;obtain rfl:=BI.1 ho;obtain rfl:=BI.1 hz;split at h
  ·rename_i s' bz es hm
   cases oc:Nat.beq bz z'<;>simp only[oc,cond_true,cond_false]at h;obtain rfl:=BI.1 oc;rw[MO]at h;obtain ⟨g1,g2,g3,g4,h⟩:=h;obtain ⟨k,h1,h2,h3⟩:=HM h;have hs:=hr.sat.site _ _ _ hm;have u5:=hr.sat.c7 _ _ _ (D6 hm);have hn:=(hr.kill hm).dc (s:=k) (q:=s') (ZF h1) h2 (.rw bz (es.take len++ys)) trivial rfl (λ_=>by have:=hr.sat.low _ _ _ (D6 hm) rfl;rwa [hs]at this);have Bk:(st.own.put s' ((st.own s').m9 (σ key 0).2 none)).c9 s'=st.own.c9 s':=by simp [AE.c9,AE.g7,BO.m9]
   simp only[AE.g7,AE.ju,Bk]at hn;refine ⟨.aj (.row s' (st.own.c9 s') bz 0 (len+ys.length)) (st.own.put s' (((st.own s').m9 (σ key 0).2 none).new ⟨bz,es.take len++ys⟩)),_,_,_,λ C => ?_,h3,?_,hn⟩
   ·rw[hs]at u5
    simp only[c5,rk,hr.ev e (by intro e;cases e),C0,AE.get,hs,u5,A4.c7];rw[if_pos g2,if_pos ⟨trivial,trivial,g1,g3,g4⟩]
   ·simp only[BM.res,C0,BK]
  ·exact h.elim
 ·rename_i key i z' off len e
  cases ho:Nat.beq off 0<;>simp only[ho,cond_true,cond_false]at h;cases hz:Nat.beq z' z<;>simp only[hz,cond_true,cond_false]at h;obtain rfl:=BI.1 ho;obtain rfl:=BI.1 hz;split at h
  ·rename_i sk rows hm
   rw[MO]at h;obtain ⟨bz,es,g0,h⟩:=h;cases oc:Nat.beq bz z'<;>simp only[oc,cond_true,cond_false]at h;obtain rfl:=BI.1 oc;obtain ⟨g1,g2,g3,g4,h⟩:=h;have h:=h (σ key (i+1)).1 (.row (σ key (i+1)).1 (σ key (i+1)).2 bz 0 es.length);obtain ⟨k,h1,h2,h3⟩:=HM h;have u5:=hr.sat.c7 key (i+1) (.rw bz es) (by simp [b7,hm,g0]);have hn:=hr.Ba (s:=k) (es':=es.take len++ys) hm g0 h1 h2;refine ⟨.aj (.row (σ key (i+1)).1 (st.own.c9 (σ key (i+1)).1) bz 0 (len+ys.length)) (st.own.put (σ key (i+1)).1 (((st.own (σ key (i+1)).1).m9 (σ key (i+1)).2 none).new ⟨bz,es.take len++ys⟩)),_,_,_,λ C => ?_,h3,?_,hn⟩
   ·simp only[c5,rk,hr.ev e (by intro e;cases e),C0,AE.get,u5,A4.c7]
    rw[if_pos g2,if_pos ⟨trivial,trivial,g1,g3,g4⟩]
   ·simp only[BM.res,C0,BK]
  ·exact h.elim
 ·rename_i e
  cases di:D5 s<;>simp only[di,cond_true,cond_false]at h;obtain ⟨g2,g3,g4,h⟩:=h;obtain ⟨k,h1,h2,h3⟩:=HM h;refine ⟨.aj (.row s (st.own.c9 s) z 0 ys.length) (st.own.put s ((st.own s).new ⟨z,ys⟩)),_,_,_,λ C => ?_,h3,?_,hr.dc h1 h2 (.rw z ys) trivial rfl (λ_=>di)⟩
  ·simp only[c5,rk,hr.ev e (by intro e;cases e),E2]
   rw[if_pos g2,if_pos ⟨g3,g4⟩]
  ·simp only[BM.res,C0,BK]
 ·exact h.elim
theorem qC {v:AV} {ky k2 z n:Nat} (h:OB M v=some (ky,some (k2,z,n))):v = .row ky 0 1 0 1 /\ ∃ sy,b8 M ky=some (sy,.bs 1 [[.row k2 0 z 0 n]]):=by
 unfold OB at h;split at h
 ·split at h
  ·rename_i hm
   simp only[Option.some.injEq,Prod.mk.injEq]at h;obtain ⟨rfl,rfl,rfl,rfl⟩:=h;exact ⟨rfl,_,hm⟩
  ·simp at h
  ·cases h
 ·cases h
theorem qB {v:AV} {ky:Nat} (h:OB M v=some (ky,none)):v = .row ky 0 1 0 1 /\ ∃ sy,b8 M ky=some (sy,.rw 1 [[.nil]]):=by
 unfold OB at h;split at h
 ·split at h
  ·simp at h
  ·rename_i hm
   simp only[Option.some.injEq,Prod.mk.injEq,and_true]at h;subst h;exact ⟨rfl,_,hm⟩
  ·cases h
 ·cases h
theorem oR {s z bytes:Nat} {x y:AM} (hr:RX σ tm M st) (h:XE L tm M a7 K (.app s z bytes x y)):BG L tm a7 K (.app s z bytes x y) st:=by
 simp only[XE]at h;cases hV:Nat.ble 800000 s<;>simp only[hV,cond_true,cond_false]at h;split at h
 ·rename_i ky k2 z2 n2 Cc
  obtain ⟨iz,sy,pd⟩:=qC Cc;have fq:=hr.sat.site _ _ _ pd;have mg:=hr.sat.c7 _ _ _ (D6 pd);rw[fq]at mg
  have zn:DS st.own (st.ev y)=some [[.row (σ k2 0).1 (σ k2 0).2 z2 0 n2]]:=by
   rw[hr.ev iz (by intro e;cases e)];simp only[C0,DS,AE.get,fq,mg,A4.c7,A0,List.map_cons,List.map_nil,List.length_cons,List.length_nil];simp
  split at h
  ·rename_i key z' off len e
   cases ho:Nat.beq off 0<;>simp only[ho,cond_true,cond_false]at h;cases hz:Nat.beq z' 1<;>simp only[hz,cond_true,cond_false]at h;cases ea:Nat.beq z 1<;>simp only[ea,cond_true,cond_false]at h;cases ke:Nat.beq key k2<;>simp only[ke,cond_true,cond_false]at h;cases Cy:Nat.beq key ky<;>simp only[Cy,cond_true,cond_false]at h;cases Ob:Nat.beq k2 ky<;>simp only[Ob,cond_true,cond_false]at h;obtain rfl:=BI.1 ho;obtain rfl:=BI.1 hz;obtain rfl:=BI.1 ea;split at h
   ·rename_i s2 z3 es ep
    cases zo:Nat.beq z2 z3<;>simp only[zo,cond_true,cond_false]at h;obtain rfl:=BI.1 zo;split at h
    ·rename_i s' rows hm
     rw[MO]at h;obtain ⟨rfl,rfl,g3,g4,h⟩:=h;obtain ⟨k,h1,h2,h3⟩:=HM h;have hs:=hr.sat.site _ _ _ hm;have u5:=hr.sat.c7 _ _ _ (D6 hm);rw[hs]at u5;refine ⟨.aj (.row s' (st.own.c9 s') 1 0 (rows.length+1)) (st.own.put s' (((st.own s').m9 (σ key 0).2 none).new ⟨1,BU σ key 0 rows++[[.row (σ k2 0).1 (σ k2 0).2 z2 0 es.length]]⟩)),_,_,_,λ C => ?_,h3,?_,hr.Bb (ky:=ky) hm ep (EL.1 ke) h1 h2⟩
     ·simp only[c5,zn,hr.ev e (by intro e;cases e),C0,AE.get,hs,u5,A4.c7]
      rw[if_pos (by simp),if_pos ⟨trivial,trivial,by rw[EZ];exact Nat.le_refl _,by simpa using g3,by simpa using g4⟩];rw[zT (by rw[EZ];exact Nat.le_refl _)];rfl
     ·simp only[BM.res,C0,BK]
    ·exact h.elim
   ·exact h.elim
  ·rename_i e
   cases di:D5 s<;>simp only[di,cond_true,cond_false]at h;cases ea:Nat.beq z 1<;>simp only[ea,cond_true,cond_false]at h;obtain rfl:=BI.1 ea;split at h
   ·rename_i s2 z3 es ep
    cases zo:Nat.beq z2 z3<;>simp only[zo,cond_true,cond_false]at h;obtain rfl:=BI.1 zo;rw[MO]at h;obtain ⟨⟨rfl,g3⟩,h⟩:=h;obtain ⟨k,h1,h2,h3⟩:=HM h;obtain ⟨σ',q1,q2⟩:=hr.Ey (q:=s) ep (λ e=>(PA h1 _ _ _ ep).1 e.symm) h1 h2 di;refine ⟨.aj (.row s (st.own.c9 s) 1 0 1) (st.own.put s ((st.own s).new ⟨1,[[.row (σ k2 0).1 (σ k2 0).2 z2 0 es.length]]⟩)),σ',_,_,λ C => ?_,h3,?_,q2⟩
    ·simp only[c5,zn,hr.ev e (by intro e;cases e),E2]
     rw[if_pos (by simp),if_pos ⟨by simpa [FF] using g3,by simp⟩];rfl
    ·simp only[BM.res,C0,q1]
   ·exact h.elim
  ·exact h.elim
 ·rename_i ky Cc
  obtain ⟨iz,sy,pd⟩:=qB Cc;have fq:=hr.sat.site _ _ _ pd;have mg:=hr.sat.c7 _ _ _ (D6 pd);rw[fq]at mg
  have zn:DS st.own (st.ev y)=some [[.nil]]:=by
   rw[hr.ev iz (by intro e;cases e)];simp only[C0,DS,AE.get,fq,mg,A4.c7,List.length_cons,List.length_nil];simp
  split at h
  ·rename_i key z' off len e
   cases ho:Nat.beq off 0<;>simp only[ho,cond_true,cond_false]at h;cases hz:Nat.beq z' 1<;>simp only[hz,cond_true,cond_false]at h;cases ea:Nat.beq z 1<;>simp only[ea,cond_true,cond_false]at h;cases Cy:Nat.beq key ky<;>simp only[Cy,cond_true,cond_false]at h;obtain rfl:=BI.1 ho;obtain rfl:=BI.1 hz;obtain rfl:=BI.1 ea;split at h
   ·rename_i s' rows hm
    rw[MO]at h;obtain ⟨rfl,g3,g4,h⟩:=h;obtain ⟨k,h1,h2,h3⟩:=HM h;have hs:=hr.sat.site _ _ _ hm;have u5:=hr.sat.c7 _ _ _ (D6 hm);rw[hs]at u5;refine ⟨.aj (.row s' (st.own.c9 s') 1 0 (rows.length+1)) (st.own.put s' (((st.own s').m9 (σ key 0).2 none).new ⟨1,BU σ key 0 rows++[[.nil]]⟩)),_,_,_,λ C => ?_,h3,?_,hr.Bc hm h1 h2⟩
    ·simp only[c5,zn,hr.ev e (by intro e;cases e),C0,AE.get,hs,u5,A4.c7]
     rw[if_pos (by simp),if_pos ⟨trivial,trivial,by rw[EZ];exact Nat.le_refl _,by simpa using g3,by simpa using g4⟩];rw[zT (by rw[EZ];exact Nat.le_refl _)];rfl
    ·simp only[BM.res,C0,BK]
   ·exact h.elim
  ·rename_i e
   cases di:D5 s<;>simp only[di,cond_true,cond_false]at h;cases ea:Nat.beq z 1<;>simp only[ea,cond_true,cond_false]at h;obtain rfl:=BI.1 ea;obtain ⟨g3,h⟩:=h;obtain ⟨k,h1,h2,h3⟩:=HM h;have dt:A4.flat (.mx [none]):=by
    intro i x hx;cases i with
    | zero=>simp at hx
    | succ i=>simp at hx
   refine ⟨.aj (.row s (st.own.c9 s) 1 0 1) (st.own.put s ((st.own s).new ⟨1,[[.nil]]⟩)),_,_,_,λ C => ?_,h3,?_,hr.dc h1 h2 (.mx [none]) dt rfl (λ_=>di)⟩
   ·simp only[c5,zn,hr.ev e (by intro e;cases e),E2]
    rw[if_pos (by simp),if_pos ⟨by simpa [FF] using g3,by simp⟩];rfl
   ·simp only[BM.res,C0,BK]
  ·exact h.elim
 ·exact oS hr h
end
end Go.c8
