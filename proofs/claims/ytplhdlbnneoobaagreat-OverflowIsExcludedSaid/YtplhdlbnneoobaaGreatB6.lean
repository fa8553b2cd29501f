/-
  The walk by computation is sound.
-/
import Derived.Test.YtplhdlbnneoobaaGreatB5
set_option linter.unusedSimpArgs false
set_option linter.unusedVariables false
set_option linter.unnecessarySimpa false
namespace Go.c6
theorem BJ {a b:Nat}:Nat.beq a b=true↔a=b:=⟨Nat.eq_of_beq_eq_true,λ h=>by subst h;simp⟩
theorem GO {a b:Nat}:Nat.beq a b=false↔a≠b:=by
 constructor
 ·exact Nat.ne_of_beq_eq_false
 ·intro h
  cases e:Nat.beq a b
  ·rfl
  ·exact absurd (Nat.eq_of_beq_eq_true e) h
theorem LC (j:Nat) : ∀ tm:Tm,tg tm j=g7 tm j
 | []=>rfl
 | (i,v)::r=>by
  simp only[tg,Z8,LC j r];cases e:Nat.beq j i
  ·rw[if_neg (GO.1 e)];rfl
  ·rw[if_pos (BJ.1 e)];rfl
theorem IP : ∀ (l:List AV) (K:List AV->Prop),fL l K=K l
 | [],_=>rfl
 | v::r,K=>by rw[fL,IP r]
theorem WI : ∀ (l:Tm) (K:Tm->Prop),fT l K=K l
 | [],_=>rfl
 | (i,v)::r,K=>by rw[fT,WI r]
theorem Q8 : ∀ (l:Mem) (K:Mem->Prop),fM l K=K l
 | [],_=>rfl
 | (k,s,c)::r,K=>by rw[fM,Q8 r]
theorem Ahs (n:Nat) (K:Nat->Prop):fN n K=K n:=by cases n<;>rfl
theorem iD (m i:Nat):bit m i=m.testBit i:=by
 have h:Nat.land (Nat.shiftRight m i) 1=(m >>> i)%2:=Nat.and_one_is_mod (m >>> i);have ht:m.testBit i=decide ((m >>> i)%2=1):=by
  rw[Nat.testBit,Nat.and_comm,Nat.and_one_is_mod];rcases Nat.mod_two_eq_zero_or_one (m >>> i) with e|e<;>simp [e]
 unfold bit;rw[h,ht];rcases Nat.mod_two_eq_zero_or_one (m >>> i) with e|e<;>rw[e]<;>rfl
theorem qJ (m i j:Nat):bit (Nat.lor m (Nat.shiftLeft 1 i)) j=(bit m j||decide (j=i)):=by
 rw[iD,iD];show (m ||| (1 <<< i)).testBit j=_;rw[Nat.testBit_or,Nat.testBit_shiftLeft];congr 1;by_cases h:j=i
 ·subst h;simp
 ·by_cases h2:j≥i
  ·obtain ⟨d,rfl⟩ : ∃ d,j=i+d+1:=⟨j-i-1,by omega⟩
   rw[show i+d+1-i=d+1 by omega,Nat.testBit_succ];simp [h]
  ·simp [h2,h]
theorem qI : ∀ (ts:List Nat) (m j:Nat),bit (mask m ts) j=(bit m j||ts.contains j)
 | [],m,j=>by simp [mask]
 | t::ts,m,j=>by
  rw[mask,qI ts,qJ,List.contains_cons,Bool.or_assoc];congr 2
theorem iE (j:Nat):bit 0 j=false:=by rw[iD];simp
theorem Z6 (j:Nat) : ∀ (tm:Tm) (m:Nat),tg (sw m tm) j=bif bit m j then .any else tg tm j
 | [],m=>by cases bit m j<;>rfl
 | (i,v)::r,m=>by
  simp only[sw];cases hb:bit m i
  ·simp only[cond_false,tg,Z6 j r,qJ]
   cases hj:Nat.beq j i
   ·have:decide (j=i)=false:=by simpa using GO.1 hj
    simp only[cond_false,this,Bool.or_false]
   ·obtain rfl:=BJ.1 hj
    simp only[cond_true,hb,cond_false]
  ·simp only[cond_true,tg,Z6 j r]
   cases hj:Nat.beq j i
   ·rfl
   ·obtain rfl:=BJ.1 hj
    simp only[hb,cond_true]
theorem cR {v:AV} {K:AV->Prop} (h:fV v K):v ≠ .any/\K v:=by
 cases v<;>simp only[fV,IP]at h<;>first|exact h.elim|exact ⟨(by intro e;cases e),h⟩
theorem cQ {v:AV} {K:List AV->Prop} (h:fC v K):v ≠ .any /\ ∃ cs,cellsOf v=some cs/\K cs:=by
 cases v<;>simp only[fC,fV,IP]at h<;>first|exact h.elim|exact ⟨(by intro e;cases e),_,rfl,h⟩
theorem TF (b:Bool) (K:Bool->Prop):fB b K=K b:=by cases b<;>rfl
theorem Pv {k:Nat} {tm:Tm} {M:Mem} (h:used k tm M=false):H2 k M=false/\JB k tm=false:=by
 unfold used at h;cases h1:H2 k M<;>simp only[h1,cond_true,cond_false]at h
 ·exact ⟨rfl,h⟩
 ·cases h
theorem Ob {tm:Tm} {M:Mem} {K:Nat->Prop} : ∀ {l:List Nat},dR tm M l K -> ∃ k,H2 k M=false/\JB k tm=false/\K k
 | [],h=>h.elim
 | k::r,h=>by
  simp only[dR]at h;cases h0:used k tm M<;>simp only[h0,cond_true,cond_false]at h
  ·exact ⟨k,(Pv h0).1,(Pv h0).2,h⟩
  ·exact Ob h
theorem I2 {s:Nat} {tm:Tm} {M:Mem} {K:Nat->Prop} (h:HI s tm M K) : ∃ k,H2 k M=false/\JB k tm=false/\K k:=Ob h
section
variable {σ:GN}
def DC (σ:GN) (k:Nat) (f:Nat->Nat × Nat):GN:=λ j t=>if j=k then f t else σ j t
theorem CS {k j:Nat} (f:Nat->Nat × Nat) (h:j≠k):DC σ k f j=σ j:=by funext t;simp [DC,h]
theorem B1 (k:Nat) (f:Nat->Nat × Nat):DC σ k f k=f:=by funext t;simp [DC]
theorem nW {k:Nat} {p:Nat->Nat × Nat} {v:AV} (h:P5 k v=false):A7 (DC σ k p) v=A7 σ v:=by
 cases v with
 | row j t z o n=>simp only[P5]at h;simp only[A7,CS p (GO.1 h)]
 | ptr j t a b=>simp only[P5]at h;simp only[A7,CS p (GO.1 h)]
 | _=>rfl
theorem XB {k:Nat} {p:Nat->Nat × Nat} : ∀ {cs:List AV},JA k cs=false->cs.map (A7 (DC σ k p))=cs.map (A7 σ)
 | [],_=>rfl
 | c::r,h=>by
  simp only[JA]at h;cases h1:P5 k c<;>simp only[h1,cond_true,cond_false]at h
  ·rw[List.map_cons,List.map_cons,nW h1,XB h]
  ·cases h
theorem nU {k:Nat} {p:Nat->Nat × Nat} : ∀ {es:List (List AV)},KJ k es=false->(es.map λ cs=>cs.map (A7 (DC σ k p)))=es.map λ cs=>cs.map (A7 σ)
 | [],_=>rfl
 | c::r,h=>by
  simp only[KJ]at h;cases h1:JA k c<;>simp only[h1,cond_true,cond_false]at h
  ·rw[List.map_cons,List.map_cons,XB h1,nU h]
  ·cases h
theorem Z3 {k:Nat} {p:Nat->Nat × Nat} {v:AV} (h:SN k v=false):BM (DC σ k p) v=BM σ v:=by
 cases v with
 | agg cs=>simp only[SN]at h;simp only[BM,XB h]
 | fn p f g cs=>simp only[SN]at h;simp only[BM,XB h]
 | row a b c d e=>exact nW (v := .row a b c d e) h
 | ptr a b c d=>exact nW (v := .ptr a b c d) h
 | _=>rfl
theorem Qm {k:Nat} {p:Nat->Nat × Nat} : ∀ {cs:List AV},W5 k cs=false->cs.map (BM (DC σ k p))=cs.map (BM σ)
 | [],_=>rfl
 | c::r,h=>by
  simp only[W5]at h;cases h1:SN k c<;>simp only[h1,cond_true,cond_false]at h
  ·rw[List.map_cons,List.map_cons,Z3 h1,Qm h]
  ·cases h
theorem fP {k:Nat} {p:Nat->Nat × Nat} {v:AV} (h:P6 k v=false):BC (DC σ k p) v=BC σ v:=by
 cases v with
 | g8 cs=>simp only[P6]at h;simp only[BC,Qm h]
 | agg cs=>exact Z3 (v := .agg cs) h
 | fn p f g cs=>exact Z3 (v := .fn p f g cs) h
 | row a b c d e=>exact Z3 (v := .row a b c d e) h
 | ptr a b c d=>exact Z3 (v := .ptr a b c d) h
 | _=>rfl
theorem W6 {k:Nat} : ∀ {tm:Tm},JB k tm=false -> ∀ j,P6 k (tg tm j)=false
 | [],_,_=>rfl
 | (i,v)::r,h,j=>by
  simp only[JB]at h;cases h1:P6 k v<;>simp only[h1,cond_true,cond_false]at h
  ·simp only[tg]
   cases Nat.beq j i
   ·exact W6 h j
   ·exact h1
  ·cases h
theorem RF {k:Nat} : ∀ {M:Mem},H2 k M=false -> ∀ j s c,c9 M j=some (s,c)->j≠k/\IG k c=false
 | [],_,_,_,_,e=>by cases e
 | (i,s0,c0)::r,h,j,s,c,e=>by
  simp only[H2]at h;cases h0:Nat.beq k i<;>simp only[h0,cond_true,cond_false]at h
  ·cases h1:IG k c0<;>simp only[h1,cond_true,cond_false]at h
   ·simp only[c9]at e
    cases h2:Nat.beq j i<;>simp only[h2,cond_true,cond_false]at e
    ·exact RF h j s c e
    ·simp only[Option.some.injEq,Prod.mk.injEq]at e
     obtain ⟨_,rfl⟩:=e;exact ⟨λ e=>GO.1 h0 (e.symm.trans (BJ.1 h2)),h1⟩
   ·cases h
  ·cases h
theorem TL {σ σ':GN} {k:Nat} : ∀ (rows:List (Option (Nat × List (List AV)))) (i:Nat),(∀ j,i<=j->σ k (j+1)=σ' k (j+1))->B7 σ k i rows=B7 σ' k i rows
 | [],i,h=>rfl
 | none::r,i,h=>by rw[B7,B7,TL r (i+1) λ j hj=>h j (by omega)]
 | some (z,es)::r,i,h=>by rw[B7,B7,TL r (i+1) λ j hj=>h j (by omega),h i (by omega)]
theorem GR {k:Nat} : ∀ (rows:List (Option (Nat × List (List AV)))) (i j:Nat),(B7 σ k i rows)[j]? = (rows[j]?).map λ r=>match r with|none=>[.nil]|some (z,es)=>[.row (σ k (i+j+1)).1 (σ k (i+j+1)).2 z 0 es.length]
 | [],i,j=>by simp [B7]
 | none::r,i,0=>by simp [B7]
 | none::r,i,j+1=>by simp only[B7,List.getElem?_cons_succ,GR r (i+1) j];rw[show i+1+j=i+(j+1) by omega]
 | some (z,es)::r,i,0=>by simp [B7]
 | some (z,es)::r,i,j+1=>by simp only[B7,List.getElem?_cons_succ,GR r (i+1) j];rw[show i+1+j=i+(j+1) by omega]
theorem F6 {k:Nat} : ∀ (rows:List (Option (Nat × List (List AV)))) (i:Nat),(B7 σ k i rows).length=rows.length
 | [],i=>rfl
 | none::r,i=>by simp [B7,F6 r]
 | some (z,es)::r,i=>by simp [B7,F6 r]
theorem bF {k j:Nat} {f:Nat->Nat × Nat} {c:A8} (h:IG k c=false) (hj:j≠k):c.e8 (DC σ k f) j=c.e8 σ j:=by
 cases c with
 | bx cs=>simp only[IG]at h;simp only[A8.e8,XB h]
 | rw z es=>rfl
 | bs z es=>simp only[IG]at h;simp only[A8.e8,nU h]
 | mx rows=>simp only[A8.e8];rw[TL rows 0 λ i _=>by rw[CS f hj]]
 | hx a v rows=>simp only[A8.e8];rw[TL rows 0 λ i _=>by rw[CS f hj]]
 | vw w rows=>simp only[A8.e8];rw[TL rows 0 λ i _=>by rw[CS f hj]]
theorem AeW {v:AV} (h:qf v=true):A7 σ v=v:=by cases v<;>first|rfl|cases h
theorem KD : ∀ {cs:List AV},EW cs=true->cs.map (A7 σ)=cs
 | [],_=>rfl
 | c::r,h=>by
  simp only[EW]at h;cases h1:qf c<;>simp only[h1,cond_true,cond_false]at h
  ·cases h
  ·rw[List.map_cons,AeW h1,KD h]
theorem AeV {k:Nat} {v:AV} (h:qf v=true):P5 k v=false:=by cases v<;>first|rfl|cases h
theorem iT {k:Nat} : ∀ {cs:List AV},EW cs=true->JA k cs=false
 | [],_=>rfl
 | c::r,h=>by
  simp only[EW]at h;cases h1:qf c<;>simp only[h1,cond_true,cond_false]at h
  ·cases h
  ·simp only[JA,AeV h1,iT h,cond_false]
theorem AeP (v:AV):cv v = .any\/(cv v=v/\BC σ v=v):=by
 cases v with
 | agg cs =>
  simp only[cv];cases h:EW cs
  ·exact Or.inl rfl
  ·exact Or.inr ⟨rfl,by simp only[BC,BM,KD h]⟩
 | g8 vs=>cases vs with
  | nil=>exact Or.inr ⟨rfl,rfl⟩
  | cons=>exact Or.inl rfl
 | fn p f g cs=>cases cs with
  | nil=>exact Or.inr ⟨rfl,rfl⟩
  | cons=>exact Or.inl rfl
 | _=>first|exact Or.inl rfl|exact Or.inr ⟨rfl,rfl⟩
theorem AeM {k:Nat} (v:AV):P6 k (cv v)=false:=by
 cases v with
 | agg cs =>
  simp only[cv];cases h:EW cs
  ·rfl
  ·exact iT h
 | g8 vs=>cases vs<;>rfl
 | fn p f g cs=>cases cs<;>rfl
 | _=>rfl
variable {tm:Tm} {M:Mem} {st:St}
theorem RX.ev (h:RX σ tm M st) {x:AU} {v:AV} (e:ex tm x=v) (hv:v ≠ .any):st.ev x=BC σ v:=by
 cases x with
 | t n =>
  simp only[ex]at e;rcases h.tm n with h|h
  ·exact absurd (e.symm.trans h) hv
  ·rw[e]at h;exact h
 | c u =>
  simp only[ex]at e;rcases AeP (σ:=σ) u with h|⟨h,h'⟩
  ·exact absurd (e.symm.trans h) hv
  ·rw[<-e,h,h'];rfl
theorem vW {k:Nat} (h:JB k tm=false) (x:AU):P6 k (ex tm x)=false:=by
 cases x with
 | t n=>exact W6 h n
 | c u=>exact AeM u
theorem Oo {k:Nat} {v:AV} {cs:List AV} (h:P6 k v=false) (e:cellsOf v=some cs):JA k cs=false:=by
 cases v<;>simp only[cellsOf,Option.some.injEq,reduceCtorEq]at e<;>subst e<;>first|exact h|rfl|(simp only[P6,SN]at h;simp only[JA,h,cond_false])
theorem QW {v:AV} {cs:List AV} (e:cellsOf v=some cs):cellsOf (BC σ v)=some (cs.map (A7 σ)):=by
 cases v<;>simp only[cellsOf,Option.some.injEq,reduceCtorEq]at e<;>subst e<;>rfl
def A8.flat:A8->Prop
 | .mx rows => ∀ (i:Nat) (x:Nat × List (List AV)),rows[i]? = some (some x)->False
 | .hx _ _ _=>False
 | .vw _ _=>False
 | _=>True
theorem EU {M:Mem} {k s:Nat} {c:A8} (h:c9 M k=some (s,c)):c5 M k 0=some c:=by simp [c5,h]
theorem I8 {M:Mem} {k t:Nat} {c:A8} (h:c5 M k t=some c) : ∃ s c0,c9 M k=some (s,c0)/\(t=0->c=c0)/\(∀ i,t=i+1 -> ∃ rows z es,((c0 = .mx rows \/ ∃ a v,c0 = .hx a v rows) \/ ∃ w,c0 = .vw w rows)/\rows[i]? = some (some (z,es))/\c = .rw z es):=by
 unfold c5 at h;cases hm:c9 M k with
 | none=>simp [hm]at h
 | some x =>
  obtain ⟨s,c0⟩:=x;simp only[hm]at h;refine ⟨s,c0,rfl,?_,?_⟩
  ·rintro rfl;exact (Option.some.inj h).symm
  ·rintro i rfl
   cases c0 with
   | mx rows =>
    simp only at h;cases hr:rows[i]? with
    | none=>simp [hr]at h
    | some r =>
     cases r with
     | none=>simp [hr]at h
     | some ze=>obtain ⟨z,es⟩:=ze;simp only[hr,Option.some.injEq]at h;exact ⟨rows,z,es,Or.inl (Or.inl rfl),hr,h.symm⟩
   | hx a v rows =>
    simp only at h;cases hr:rows[i]? with
    | none=>simp [hr]at h
    | some r =>
     cases r with
     | none=>simp [hr]at h
     | some ze=>obtain ⟨z,es⟩:=ze;simp only[hr,Option.some.injEq]at h;exact ⟨rows,z,es,Or.inl (Or.inr ⟨a,v,rfl⟩),hr,h.symm⟩
   | vw w rows =>
    simp only at h;cases hr:rows[i]? with
    | none=>simp [hr]at h
    | some r =>
     cases r with
     | none=>simp [hr]at h
     | some ze=>obtain ⟨z,es⟩:=ze;simp only[hr,Option.some.injEq]at h;exact ⟨rows,z,es,Or.inr ⟨w,rfl⟩,hr,h.symm⟩
   | _=>simp at h
theorem RB {M:Mem} {k s:Nat} {c:A8} {j t:Nat} (h:j≠k):c5 ((k,s,c)::M) j t=c5 M j t:=by
 simp only[c5,c9,GO.2 h,cond_false]
theorem U3 {M:Mem} {k s:Nat} {c:A8}:c5 ((k,s,c)::M) k 0=some c:=by simp [c5,c9]
theorem WW {M:Mem} {k s:Nat} {c:A8} (hc:c.flat) {t:Nat} {c':A8} (h:c5 ((k,s,c)::M) k t=some c'):t=0/\c'=c:=by
 cases t with
 | zero=>rw[U3]at h;exact ⟨rfl,(Option.some.inj h).symm⟩
 | succ i =>
  simp only[c5,c9,Nat.beq_refl,cond_true]at h;cases c with
  | mx rows =>
   simp only at h;split at h
   ·rename_i z es hr
    exact (hc i (z,es) hr).elim
   ·cases h
  | hx a v rows=>exact hc.elim
  | vw w rows=>exact hc.elim
  | _=>simp at h
theorem Ajj {σ σ':GN} {k k':Nat} {rows:List (Option (Nat × List (List AV)))} (h:A8.flat (.mx rows)):B7 σ k 0 rows=B7 σ' k' 0 rows:=by
 apply List.ext_getElem?;intro j;rw[GR,GR];cases hr:rows[j]? with
 | none=>rfl
 | some r=>cases r with
  | none=>rfl
  | some x=>exact (h j x hr).elim
theorem RX.eg (h:RX σ tm M st) {s q:Nat} (hm:H2 s M=false) (ht:JB s tm=false) (c:A8) (hf:c.flat) (hc:IG s c=false) (hl:c.lg=true->F5 q=true) :
  RX (DC σ s λ_=>(q,st.own.g9 q)) tm ((s,q,c)::M) ⟨st.tm,st.own.put q ((st.own q).new (c.e8 σ s))⟩:=by
 have Kq : ∀ j t c',c5 M j t=some c'->((st.own.put q ((st.own q).new (c.e8 σ s))) (σ j t).1).e8 (σ j t).2=(st.own (σ j t).1).e8 (σ j t).2:=by
  intro j t c' e;by_cases hs:(σ j t).1=q
  ·have ho:=h.sat.old _ _ _ e
   rw[hs]at ho ⊢;simp only[AJ.j6,CF.new];rw[if_neg (by omega)]
  ·rw[AJ.eh _ _ _ _ hs]
 have yi : ∀ s',(st.own s').g9<=((st.own.put q ((st.own q).new (c.e8 σ s))) s').g9:=by
  intro s';by_cases hs:s'=q
  ·subst hs;simp only[AJ.j6,CF.new];omega
  ·rw[AJ.eh _ _ _ _ hs];exact Nat.le_refl _
 have l9 : ∀ j t c',j≠s->c5 ((s,q,c)::M) j t=some c'->c5 M j t=some c':=λ j t c' hj e=>by rwa [RB hj]at e
 have zk : ∀ j t c',c5 M j t=some c'->IG s c'=false/\j≠s:=by
  intro j t c' e;obtain ⟨s1,c0,g1,g2,g3⟩:=I8 e;obtain ⟨g4,g5⟩:=RF hm _ _ _ g1;refine ⟨?_,g4⟩;cases t with
  | zero=>rw[g2 rfl];exact g5
  | succ i=>obtain ⟨rows,z,es,_,_,rfl⟩:=g3 i rfl;rfl
 refine ⟨λ j => ?_,⟨?_,?_,?_,?_,?_⟩⟩
 ·rw[fP (W6 ht j)];exact h.tm j
 ·intro j s' c' e
  simp only[c9]at e;cases hb:Nat.beq j s<;>simp only[hb,cond_true,cond_false]at e
  ·rw[CS _ (GO.1 hb)];exact h.sat.site _ _ _ e
  ·simp only[Option.some.injEq,Prod.mk.injEq]at e
   obtain ⟨rfl,rfl⟩:=e;rw[BJ.1 hb,B1]
 ·intro j t c' e
  by_cases hj:j=s
  ·subst hj
   obtain ⟨rfl,rfl⟩:=WW hf e;have hb:c'.e8 (DC σ j λ_=>(q,st.own.g9 q)) j=c'.e8 σ j:=by
    cases c' with
    | bx cs=>simp only[IG]at hc;simp only[A8.e8,XB hc]
    | rw z es=>rfl
    | bs z es=>simp only[IG]at hc;simp only[A8.e8,nU hc]
    | mx rows=>exact congrArg (ES.mk 1) (Ajj hf)
    | hx a v rows=>exact hf.elim
    | vw w rows=>exact hf.elim
   rw[B1,hb];simp [AJ.j6,CF.new,AJ.g9]
  ·have e':=l9 j t c' hj e
   rw[CS _ hj,bF (zk j t c' e').1 hj];exact (Kq j t c' e').trans (h.sat.e8 _ _ _ e')
 ·intro j t c' e
  by_cases hj:j=s
  ·subst hj
   rw[B1];simp [AJ.j6,CF.new,AJ.g9]
  ·have e':=l9 j t c' hj e
   rw[CS _ hj];exact Nat.lt_of_lt_of_le (h.sat.old _ _ _ e') (yi _)
 ·have jy : ∀ j t c',c5 M j t=some c'->σ j t=(q,st.own.g9 q)->False:=by
   intro j t c' e hh;have h2:=h.sat.old _ _ _ e;rw[hh]at h2;exact absurd h2 (Nat.lt_irrefl _)
  intro j t j' t' c1 c2 e1 e2 hj;by_cases h1:j=s<;>by_cases h2:j'=s
  ·subst h1;subst h2
   exact ⟨rfl,(WW hf e1).1.trans (WW hf e2).1.symm⟩
  ·subst h1
   rw[B1,CS _ h2]at hj;exact (jy _ _ _ (l9 _ _ _ h2 e2) hj.symm).elim
  ·subst h2
   rw[B1,CS _ h1]at hj;exact (jy _ _ _ (l9 _ _ _ h1 e1) hj).elim
  ·rw[CS _ h1,CS _ h2]at hj
   exact h.sat.inj _ _ _ _ _ _ (l9 _ _ _ h1 e1) (l9 _ _ _ h2 e2) hj
 ·intro j t c' e hw
  by_cases hj:j=s
  ·subst hj
   obtain ⟨rfl,rfl⟩:=WW hf e;rw[B1];exact hl hw
  ·rw[CS _ hj];exact h.sat.low _ _ _ (l9 j t c' hj e) hw
theorem RA {k j:Nat} {x:Nat × A8} : ∀ {M:Mem},c9 (o4 k M) j=some x->j≠k/\c9 M j=some x
 | [],e=>by cases e
 | (i,s,c)::r,e=>by
  simp only[o4]at e;cases hb:Nat.beq k i<;>simp only[hb,cond_true,cond_false]at e
  ·simp only[c9]at e ⊢
   cases hj:Nat.beq j i<;>simp only[hj,cond_true,cond_false]at e ⊢
   ·exact RA e
   ·exact ⟨λ e'=>GO.1 hb (e'.symm.trans (BJ.1 hj)),e⟩
  ·obtain ⟨h1,h2⟩:=RA e
   refine ⟨h1,?_⟩;simp only[c9];rw[GO.2 (λ e'=>h1 (e'.trans (BJ.1 hb).symm))];exact h2
theorem U9 {own:AJ} {p:Nat × Nat} {x:Option ES} {q:Nat × Nat} (h:q≠p):((own.put p.1 ((own p.1).o7 p.2 x)) q.1).e8 q.2=(own q.1).e8 q.2:=by
 by_cases hs:q.1=p.1
 ·rw[hs,AJ.j6]
  simp only[CF.o7];rw[if_neg (λ e=>h (Prod.ext hs e))]
 ·rw[AJ.eh _ _ _ _ hs]
theorem dU {own:AJ} {p:Nat × Nat} {x:Option ES}:((own.put p.1 ((own p.1).o7 p.2 x)) p.1).e8 p.2=x:=by simp [AJ.j6,CF.o7]
theorem ZL {own:AJ} {p:Nat × Nat} {x:Option ES} (s:Nat):((own.put p.1 ((own p.1).o7 p.2 x)) s).g9=(own s).g9:=by
 by_cases hs:s=p.1
 ·subst hs;rw[AJ.j6];rfl
 ·rw[AJ.eh _ _ _ _ hs]
theorem RX.Mb (h:RX σ tm M st) {k s:Nat} {c:A8} (e:c9 M k=some (s,c)) (hf:c.flat) (c':A8) (kj:c'.flat) (hir:c'.lg=true->c.lg=true) :
  RX σ tm ((k,s,c')::M) ⟨st.tm,st.own.put s ((st.own s).o7 (σ k 0).2 (some (c'.e8 σ k)))⟩:=by
 have hs:=h.sat.site _ _ _ e;subst hs;have e0:=EU e;have hg : ∀ j t c1,c5 ((k,(σ k 0).1,c')::M) j t=some c1->(j=k/\t=0/\c1=c')\/(j≠k/\c5 M j t=some c1):=by
  intro j t c1 e1;by_cases hj:j=k
  ·subst hj
   obtain ⟨rfl,rfl⟩:=WW kj e1;exact Or.inl ⟨rfl,rfl,rfl⟩
  ·rw[RB hj]at e1
   exact Or.inr ⟨hj,e1⟩
 have nu : ∀ j t c1,c5 ((k,(σ k 0).1,c')::M) j t=some c1 -> ∃ c2,c5 M j t=some c2:=by
  intro j t c1 e1;rcases hg j t c1 e1 with ⟨rfl,rfl,rfl⟩|⟨_,h2⟩
  ·exact ⟨c,e0⟩
  ·exact ⟨c1,h2⟩
 refine ⟨h.tm,⟨?_,?_,?_,?_,?_⟩⟩
 ·intro j s' c1 e1
  simp only[c9]at e1;cases hb:Nat.beq j k<;>simp only[hb,cond_true,cond_false]at e1
  ·exact h.sat.site _ _ _ e1
  ·simp only[Option.some.injEq,Prod.mk.injEq]at e1
   rw[BJ.1 hb];exact e1.1
 ·intro j t c1 e1
  rcases hg j t c1 e1 with ⟨rfl,rfl,rfl⟩|⟨h1,h2⟩
  ·exact dU
  ·refine (U9 (λ he => ?_)).trans (h.sat.e8 _ _ _ h2)
   exact h1 (h.sat.inj _ _ _ _ _ _ h2 e0 he).1
 ·intro j t c1 e1
  obtain ⟨c2,e2⟩:=nu _ _ _ e1;show (σ j t).2<((st.own.put (σ k 0).1 ((st.own (σ k 0).1).o7 (σ k 0).2 (some (c'.e8 σ k)))) (σ j t).1).g9;rw[ZL];exact h.sat.old _ _ _ e2
 ·intro j t j' t' c1 c2 e1 e2 hj
  obtain ⟨_,Bn⟩:=nu _ _ _ e1;obtain ⟨_,xo⟩:=nu _ _ _ e2;exact h.sat.inj _ _ _ _ _ _ Bn xo hj
 ·intro j t c1 e1 hw
  rcases hg j t c1 e1 with ⟨rfl,rfl,rfl⟩|⟨_,h2⟩
  ·exact h.sat.low _ _ _ e0 (hir hw)
  ·exact h.sat.low _ _ _ h2 hw
theorem zI {k t:Nat} {c:A8} (h:c5 M k (t+1)=some c):c.lg=true:=by
 obtain ⟨_,_,_,_,g3⟩:=I8 h;obtain ⟨_,_,_,_,_,rfl⟩:=g3 t rfl;rfl
theorem M3 {k j t:Nat} {c:A8} (h:c5 (o4 k M) j t=some c):j≠k/\c5 M j t=some c:=by
 obtain ⟨s,c0,g1,_⟩:=I8 h;obtain ⟨h1,h2⟩:=RA g1;refine ⟨h1,?_⟩;unfold c5 at h ⊢;rw[g1]at h;rw[h2];exact h
theorem RX.kill (h:RX σ tm M st) {k s:Nat} {c:A8} (e:c9 M k=some (s,c)) :
  RX σ tm (o4 k M) ⟨st.tm,st.own.put s ((st.own s).o7 (σ k 0).2 none)⟩:=by
 have hs:=h.sat.site _ _ _ e;subst hs;have e0:=EU e;refine ⟨h.tm,⟨?_,?_,?_,?_,?_⟩⟩
 ·intro j s' c1 e1
  exact h.sat.site _ _ _ (RA e1).2
 ·intro j t c1 e1
  obtain ⟨hj,e1⟩:=M3 e1;refine (U9 (λ he => ?_)).trans (h.sat.e8 _ _ _ e1);exact hj (h.sat.inj _ _ _ _ _ _ e1 e0 he).1
 ·intro j t c1 e1
  obtain ⟨hj,e1⟩:=M3 e1;show (σ j t).2<((st.own.put (σ k 0).1 ((st.own (σ k 0).1).o7 (σ k 0).2 none)) (σ j t).1).g9;rw[ZL];exact h.sat.old _ _ _ e1
 ·intro j t j' t' c1 c2 e1 e2 hj
  exact h.sat.inj _ _ _ _ _ _ (M3 e1).2 (M3 e2).2 hj
 ·intro j t c1 e1 hw
  exact h.sat.low _ _ _ (M3 e1).2 hw
theorem RX.Lz (h:RX σ tm M st) {k s i z:Nat} {rows:List (Option (Nat × List (List AV)))} {es es':List (List AV)} (e:c9 M k=some (s,.mx rows)) (hr:rows[i]? = some (some (z,es))) (hl:es'.length=es.length) :
  RX σ tm ((k,s,.mx (rows.set i (some (z,es'))))::M) ⟨st.tm,st.own.put (σ k (i+1)).1 ((st.own (σ k (i+1)).1).o7 (σ k (i+1)).2 (some ⟨z,es'⟩))⟩:=by
 have e1:c5 M k (i+1)=some (.rw z es):=by simp [c5,e,hr]
 have hi:i<rows.length:=(zS hr).1;have gi:B7 σ k 0 (rows.set i (some (z,es')))=B7 σ k 0 rows:=by
  apply List.ext_getElem?;intro j;rw[GR,GR];by_cases hj:i=j
  ·subst hj;rw[List.getElem?_set_self hi,hr];simp [hl]
  ·rw[List.getElem?_set_ne hj]
 have hg : ∀ j t c1,c5 ((k,s,.mx (rows.set i (some (z,es'))))::M) j t=some c1->(j=k/\t=i+1/\c1 = .rw z es')\/(¬ (j=k/\t=i+1) /\ ∃ c2,c5 M j t=some c2/\c2.e8 σ j=c1.e8 σ j):=by
  intro j t c1 g;by_cases hj:j=k
  ·subst hj
   cases t with
   | zero =>
    rw[U3]at g;obtain rfl:=Option.some.inj g;exact Or.inr ⟨by omega,_,EU e,by simp only[A8.e8,gi]⟩
   | succ t =>
    simp only[c5,c9,Nat.beq_refl,cond_true]at g;by_cases pq:i=t
    ·subst pq
     rw[List.getElem?_set_self hi]at g;exact Or.inl ⟨rfl,rfl,(Option.some.inj g).symm⟩
    ·rw[List.getElem?_set_ne pq]at g
     refine Or.inr ⟨by omega,c1,?_,rfl⟩;simp only[c5,e];exact g
  ·rw[RB hj]at g
   exact Or.inr ⟨by omega,c1,g,rfl⟩
 have nu : ∀ j t c1,c5 ((k,s,.mx (rows.set i (some (z,es'))))::M) j t=some c1 -> ∃ c2,c5 M j t=some c2:=by
  intro j t c1 g;rcases hg j t c1 g with ⟨rfl,rfl,rfl⟩|⟨_,c2,h2,_⟩
  ·exact ⟨_,e1⟩
  ·exact ⟨c2,h2⟩
 refine ⟨h.tm,⟨?_,?_,?_,?_,?_⟩⟩
 ·intro j s' c1 g
  simp only[c9]at g;cases hb:Nat.beq j k<;>simp only[hb,cond_true,cond_false]at g
  ·exact h.sat.site _ _ _ g
  ·simp only[Option.some.injEq,Prod.mk.injEq]at g
   rw[BJ.1 hb,<-g.1];exact h.sat.site _ _ _ e
 ·intro j t c1 g
  rcases hg j t c1 g with ⟨rfl,rfl,rfl⟩|⟨h1,c2,h2,h3⟩
  ·exact dU
  ·rw[<-h3]
   refine (U9 (λ he => ?_)).trans (h.sat.e8 _ _ _ h2);exact h1 (h.sat.inj _ _ _ _ _ _ h2 e1 he)
 ·intro j t c1 g
  obtain ⟨c2,e2⟩:=nu _ _ _ g;show (σ j t).2<((st.own.put (σ k (i+1)).1 ((st.own (σ k (i+1)).1).o7 (σ k (i+1)).2 (some ⟨z,es'⟩))) (σ j t).1).g9;rw[ZL];exact h.sat.old _ _ _ e2
 ·intro j t j' t' c1 c2 g1 g2 hj
  obtain ⟨_,Bn⟩:=nu _ _ _ g1;obtain ⟨_,xo⟩:=nu _ _ _ g2;exact h.sat.inj _ _ _ _ _ _ Bn xo hj
 ·intro j t c1 g hw
  obtain ⟨c2,e2⟩:=nu _ _ _ g;cases t with
  | zero =>
   by_cases hj:j=k
   ·subst hj;exact h.sat.low _ _ _ (EU e) rfl
   ·rw[RB hj]at g;exact h.sat.low _ _ _ g hw
  | succ t=>exact h.sat.low _ _ _ e2 (zI e2)
section
variable {k:Nat} {f:Nat->Nat × Nat}
theorem nV {v:AV} (hf:f 0=σ k 0) (h:R2 k v=false):A7 (DC σ k f) v=A7 σ v:=by
 cases v with
 | row j t z o n =>
  simp only[R2]at h;cases hb:Nat.beq j k
  ·simp only[A7,CS f (GO.1 hb)]
  ·obtain rfl:=BJ.1 hb
   simp only[hb,cond_true]at h;cases t with
   | zero=>simp only[A7,B1,hf]
   | succ t=>cases h
 | ptr j t a b =>
  simp only[R2]at h;cases hb:Nat.beq j k
  ·simp only[A7,CS f (GO.1 hb)]
  ·obtain rfl:=BJ.1 hb
   simp only[hb,cond_true]at h;cases t with
   | zero=>simp only[A7,B1,hf]
   | succ t=>cases h
 | _=>rfl
theorem Z0 (hf:f 0=σ k 0) : ∀ {cs:List AV},QX k cs=false->cs.map (A7 (DC σ k f))=cs.map (A7 σ)
 | [],_=>rfl
 | c::r,h=>by
  simp only[QX]at h;cases h1:R2 k c<;>simp only[h1,cond_true,cond_false]at h
  ·rw[List.map_cons,List.map_cons,nV hf h1,Z0 hf h]
  ·cases h
theorem Ml (hf:f 0=σ k 0) : ∀ {es:List (List AV)},V4 k es=false->(es.map λ cs=>cs.map (A7 (DC σ k f)))=es.map λ cs=>cs.map (A7 σ)
 | [],_=>rfl
 | c::r,h=>by
  simp only[V4]at h;cases h1:QX k c<;>simp only[h1,cond_true,cond_false]at h
  ·rw[List.map_cons,List.map_cons,Z0 hf h1,Ml hf h]
  ·cases h
theorem Z2 {v:AV} (hf:f 0=σ k 0) (h:UG k v=false):BM (DC σ k f) v=BM σ v:=by
 cases v with
 | agg cs=>simp only[UG]at h;simp only[BM,Z0 hf h]
 | fn p f g cs=>simp only[UG]at h;simp only[BM,Z0 hf h]
 | row a b c d e=>exact nV (v := .row a b c d e) hf h
 | ptr a b c d=>exact nV (v := .ptr a b c d) hf h
 | _=>rfl
theorem Qk (hf:f 0=σ k 0) : ∀ {cs:List AV},V3 k cs=false->cs.map (BM (DC σ k f))=cs.map (BM σ)
 | [],_=>rfl
 | c::r,h=>by
  simp only[V3]at h;cases h1:UG k c<;>simp only[h1,cond_true,cond_false]at h
  ·rw[List.map_cons,List.map_cons,Z2 hf h1,Qk hf h]
  ·cases h
theorem AkS {v:AV} (hf:f 0=σ k 0) (h:S6 k v=false):BC (DC σ k f) v=BC σ v:=by
 cases v with
 | g8 cs=>simp only[S6]at h;simp only[BC,Qk hf h]
 | agg cs=>exact Z2 (v := .agg cs) hf h
 | fn p f g cs=>exact Z2 (v := .fn p f g cs) hf h
 | row a b c d e=>exact Z2 (v := .row a b c d e) hf h
 | ptr a b c d=>exact Z2 (v := .ptr a b c d) hf h
 | _=>rfl
theorem qW : ∀ {tm:Tm},QY k tm=false -> ∀ j,S6 k (tg tm j)=false
 | [],_,_=>rfl
 | (i,v)::r,h,j=>by
  simp only[QY]at h;cases h1:S6 k v<;>simp only[h1,cond_true,cond_false]at h
  ·simp only[tg]
   cases Nat.beq j i
   ·exact qW h j
   ·exact h1
  ·cases h
theorem qT : ∀ {M:Mem},LJ k M=false -> ∀ j s c,c9 M j=some (s,c)->R3 k c=false
 | [],_,_,_,_,e=>by cases e
 | (i,s0,c0)::r,h,j,s,c,e=>by
  simp only[LJ]at h;cases h1:R3 k c0<;>simp only[h1,cond_true,cond_false]at h
  ·simp only[c9]at e
   cases h2:Nat.beq j i<;>simp only[h2,cond_true,cond_false]at e
   ·exact qT h j s c e
   ·simp only[Option.some.injEq,Prod.mk.injEq]at e
    obtain ⟨_,rfl⟩:=e;exact h1
  ·cases h
theorem Yn {c:A8} {j:Nat} (hf:f 0=σ k 0) (h:R3 k c=false) (hj:j≠k):c.e8 (DC σ k f) j=c.e8 σ j:=by
 cases c with
 | bx cs=>simp only[R3]at h;simp only[A8.e8,Z0 hf h]
 | rw z es=>rfl
 | bs z es=>simp only[R3]at h;simp only[A8.e8,Ml hf h]
 | mx rows=>simp only[A8.e8];rw[TL rows 0 λ i _=>by rw[CS f hj]]
 | hx a v rows=>simp only[A8.e8];rw[TL rows 0 λ i _=>by rw[CS f hj]]
 | vw w rows=>simp only[A8.e8];rw[TL rows 0 λ i _=>by rw[CS f hj]]
end
theorem RX.zu (h:RX σ tm M st) {k k2 s s2 i z:Nat} {rows:List (Option (Nat × List (List AV)))} {es:List (List AV)} {c0:A8} (e:c9 M k=some (s,c0)) (ep:c0 = .mx rows \/ ∃ v,c0 = .hx i v rows) (e2:c9 M k2=some (s2,.rw z es)) (hk:k≠k2) (bg:QY k tm=false) (kf:LJ k M=false) (hi:i<rows.length) :
  RX (DC σ k λ t=>if t=i+1 then σ k2 0 else σ k t) tm ((k,s,.mx (rows.set i (some (z,es))))::o4 k2 M) ⟨st.tm,st.own.put s ((st.own s).o7 (σ k 0).2 (some ⟨1,(B7 σ k 0 rows).set i [.row (σ k2 0).1 (σ k2 0).2 z 0 es.length]⟩))⟩:=by
 have hs:=h.sat.site _ _ _ e;subst hs;have r0:=EU e;have r2:=EU e2;have f0:(λ t=>if t=i+1 then σ k2 0 else σ k t) 0=σ k 0:=by simp
 have gi:B7 (DC σ k λ t=>if t=i+1 then σ k2 0 else σ k t) k 0 (rows.set i (some (z,es)))=(B7 σ k 0 rows).set i [.row (σ k2 0).1 (σ k2 0).2 z 0 es.length]:=by
  apply List.ext_getElem?;intro j;rw[GR,B1];by_cases hj:i=j
  ·subst hj
   rw[List.getElem?_set_self hi,List.getElem?_set_self (by rw[F6];exact hi)];simp
  ·rw[List.getElem?_set_ne hj,List.getElem?_set_ne hj,GR]
   congr 1;funext r
   cases r with
   | none=>rfl
   | some x=>simp only[Nat.zero_add];rw[if_neg (by omega)]
 have hg : ∀ j t c,c5 ((k,(σ k 0).1,.mx (rows.set i (some (z,es))))::o4 k2 M) j t=some c ->
   (j=k/\t=0/\c = .mx (rows.set i (some (z,es))))\/(j=k/\t=i+1/\c = .rw z es)\/(j=k/\t≠0/\t≠i+1/\c5 M k t=some c)\/(j≠k/\j≠k2/\c5 M j t=some c):=by
  intro j t c g;by_cases hj:j=k
  ·subst hj
   cases t with
   | zero=>rw[U3]at g;exact Or.inl ⟨rfl,rfl,(Option.some.inj g).symm⟩
   | succ t =>
    simp only[c5,c9,Nat.beq_refl,cond_true]at g;by_cases pq:i=t
    ·subst pq
     rw[List.getElem?_set_self hi]at g;exact Or.inr (Or.inl ⟨rfl,rfl,(Option.some.inj g).symm⟩)
    ·rw[List.getElem?_set_ne pq]at g
     refine Or.inr (Or.inr (Or.inl ⟨rfl,by omega,by omega,?_⟩));rcases ep with rfl|⟨v,rfl⟩
     ·simp only[c5,e]
      exact g
     ·simp only[c5,e]
      exact g
  ·rw[RB hj]at g
   obtain ⟨g1,g2⟩:=M3 g;exact Or.inr (Or.inr (Or.inr ⟨hj,g1,g2⟩))
 have hch : ∀ j t c,c5 M j t=some c->R3 k c=false:=by
  intro j t c g;obtain ⟨s1,c0,g1,g2,g3⟩:=I8 g;cases t with
  | zero=>rw[g2 rfl];exact qT kf _ _ _ g1
  | succ t=>obtain ⟨_,_,_,_,_,rfl⟩:=g3 t rfl;rfl
 refine ⟨λ j => ?_,⟨?_,?_,?_,?_,?_⟩⟩
 ·rw[AkS (f:=λ t=>if t=i+1 then σ k2 0 else σ k t) f0 (qW bg j)];exact h.tm j
 ·intro j s' c g
  simp only[c9]at g;cases hb:Nat.beq j k<;>simp only[hb,cond_true,cond_false]at g
  ·rw[CS _ (GO.1 hb)];exact h.sat.site _ _ _ (RA g).2
  ·simp only[Option.some.injEq,Prod.mk.injEq]at g
   rw[BJ.1 hb,B1,<-g.1];simp
 ·intro j t c g
  rcases hg j t c g with ⟨rfl,rfl,rfl⟩|⟨rfl,rfl,rfl⟩|⟨rfl,h0,h1,g2⟩|⟨h0,h1,g2⟩
  ·rw[B1]
   simp only[A8.e8,gi];exact dU
  ·rw[B1]
   simp only[if_true];exact (U9 (λ he=>hk (h.sat.inj _ _ _ _ _ _ r2 r0 he).1.symm)).trans (h.sat.e8 _ _ _ r2)
  ·rw[B1]
   simp only[h1,if_false];have hb:c.e8 (DC σ j λ t=>if t=i+1 then σ k2 0 else σ j t) j=c.e8 σ j:=by
    obtain ⟨_,_,_,_,g3⟩:=I8 g2;obtain ⟨t',rfl⟩ : ∃ t',t=t'+1:=⟨t-1,by omega⟩;obtain ⟨_,_,_,_,_,rfl⟩:=g3 t' rfl;rfl
   rw[hb];exact (U9 (λ he=>h0 (h.sat.inj _ _ _ _ _ _ g2 r0 he).2)).trans (h.sat.e8 _ _ _ g2)
  ·rw[CS _ h0,Yn (f:=λ t=>if t=i+1 then σ k2 0 else σ k t) f0 (hch _ _ _ g2) h0]
   exact (U9 (λ he=>h0 (h.sat.inj _ _ _ _ _ _ g2 r0 he).1)).trans (h.sat.e8 _ _ _ g2)
 ·intro j t c g
  rw[ZL];rcases hg j t c g with ⟨rfl,rfl,rfl⟩|⟨rfl,rfl,rfl⟩|⟨rfl,h0,h1,g2⟩|⟨h0,h1,g2⟩
  ·rw[B1];simpa using h.sat.old _ _ _ r0
  ·rw[B1];simpa using h.sat.old _ _ _ r2
  ·rw[B1];simp only[h1,if_false];exact h.sat.old _ _ _ g2
  ·rw[CS _ h0];exact h.sat.old _ _ _ g2
 ·-- each name is that of Bg in the old memory
  have hold : ∀ j t c,c5 ((k,(σ k 0).1,.mx (rows.set i (some (z,es))))::o4 k2 M) j t=some c -> ∃ j0 t0 c0,c5 M j0 t0=some c0/\(DC σ k λ t=>if t=i+1 then σ k2 0 else σ k t) j t=σ j0 t0/\((j0=k2/\t0=0/\j=k/\t=i+1)\/(j0=j/\t0=t/\j≠k2)):=by
   intro j t c g;rcases hg j t c g with ⟨rfl,rfl,rfl⟩|⟨rfl,rfl,rfl⟩|⟨rfl,h0,h1,g2⟩|⟨h0,h1,g2⟩
   ·exact ⟨_,_,_,r0,by rw[B1];simp,Or.inr ⟨rfl,rfl,hk⟩⟩
   ·exact ⟨_,_,_,r2,by rw[B1];simp,Or.inl ⟨rfl,rfl,rfl,rfl⟩⟩
   ·exact ⟨_,_,_,g2,by rw[B1];simp [h1],Or.inr ⟨rfl,rfl,hk⟩⟩
   ·exact ⟨_,_,_,g2,by rw[CS _ h0],Or.inr ⟨rfl,rfl,h1⟩⟩
  intro j t j' t' c c' g g' hj;obtain ⟨j0,t0,c0,a1,a2,a3⟩:=hold j t c g;obtain ⟨j1,t1,c1,b1,b2,b3⟩:=hold j' t' c' g';rw[a2,b2]at hj;obtain ⟨q1,q2⟩:=h.sat.inj _ _ _ _ _ _ a1 b1 hj;rcases a3 with ⟨x1,x2,x3,x4⟩|⟨x1,x2,x3⟩<;>rcases b3 with ⟨y1,y2,y3,y4⟩|⟨y1,y2,y3⟩
  ·exact ⟨x3.trans y3.symm,x4.trans y4.symm⟩
  ·exact absurd (y1.symm.trans (q1.symm.trans x1)) y3
  ·exact absurd (x1.symm.trans (q1.trans y1)) x3
  ·exact ⟨x1.symm.trans (q1.trans y1),x2.symm.trans (q2.trans y2)⟩
 ·intro j t c g hw
  rcases hg j t c g with ⟨rfl,rfl,rfl⟩|⟨rfl,rfl,rfl⟩|⟨rfl,h0,h1,g2⟩|⟨h0,h1,g2⟩
  ·rw[B1];simpa using h.sat.low _ _ _ r0 (by rcases ep with rfl|⟨v,rfl⟩<;>rfl)
  ·rw[B1];simpa using h.sat.low _ _ _ r2 rfl
  ·rw[B1];simp only[h1,if_false];exact h.sat.low _ _ _ g2 hw
  ·rw[CS _ h0];exact h.sat.low _ _ _ g2 hw
theorem UW {own:AJ} {q t:Nat} {b:ES} {p:Nat × Nat} (h:p≠(q,t)) (ho:p.2<(own p.1).g9):((own.put q (((own q).o7 t none).new b)) p.1).e8 p.2=(own p.1).e8 p.2:=by
 by_cases hs:p.1=q
 ·rw[hs]at ho ⊢
  rw[AJ.j6];simp only[CF.new,CF.o7];have h1 : ¬ p.2=(own q).g9:=by omega
  have h2 : ¬ p.2=t:=λ e=>h (Prod.ext hs e)
  simp only[h1,h2,if_false]
 ·rw[AJ.eh _ _ _ _ hs]
theorem UX {own:AJ} {q t:Nat} {b:ES} (s:Nat):(own s).g9<=((own.put q (((own q).o7 t none).new b)) s).g9:=by
 by_cases hs:s=q
 ·subst hs;rw[AJ.j6];simp only[CF.new,CF.o7];omega
 ·rw[AJ.eh _ _ _ _ hs];exact Nat.le_refl _
theorem RX.Hg (h:RX σ tm M st) {s key sk i z:Nat} {rows:List (Option (Nat × List (List AV)))} {es es':List (List AV)} (e:c9 M key=some (sk,.mx rows)) (hr:rows[i]? = some (some (z,es))) (hm:H2 s M=false) (ht:JB s tm=false) :
  RX (DC σ s λ_=>((σ key (i+1)).1,st.own.g9 (σ key (i+1)).1)) tm ((s,(σ key (i+1)).1,.rw z es')::(key,sk,.hx i (.row (σ key (i+1)).1 (σ key (i+1)).2 z 0 es.length) (rows.set i none))::o4 key M)
   ⟨st.tm,st.own.put (σ key (i+1)).1 (((st.own (σ key (i+1)).1).o7 (σ key (i+1)).2 none).new ⟨z,es'⟩)⟩:=by
 have r0:=EU e;have e1:c5 M key (i+1)=some (.rw z es):=by simp [c5,e,hr]
 have hi:i<rows.length:=(zS hr).1;have Dj:key≠s:=(RF hm _ _ _ e).1;have gi:(B7 (DC σ s λ_=>((σ key (i+1)).1,st.own.g9 (σ key (i+1)).1)) key 0 (rows.set i none)).set i [.row (σ key (i+1)).1 (σ key (i+1)).2 z 0 es.length]=B7 σ key 0 rows:=by
  apply List.ext_getElem?;intro j;by_cases hj:i=j
  ·subst hj
   rw[List.getElem?_set_self (by rw[F6,List.length_set];exact hi),GR,hr];simp
  ·rw[List.getElem?_set_ne hj,GR,GR,List.getElem?_set_ne hj,CS _ Dj]
 have zk : ∀ j t c',c5 M j t=some c'->IG s c'=false/\j≠s:=by
  intro j t c' g;obtain ⟨s1,c0,g1,g2,g3⟩:=I8 g;obtain ⟨g4,g5⟩:=RF hm _ _ _ g1;refine ⟨?_,g4⟩;cases t with
  | zero=>rw[g2 rfl];exact g5
  | succ i=>obtain ⟨rows,z,es,_,_,rfl⟩:=g3 i rfl;rfl
 have hg : ∀ j t c,c5 ((s,(σ key (i+1)).1,.rw z es')::(key,sk,.hx i (.row (σ key (i+1)).1 (σ key (i+1)).2 z 0 es.length) (rows.set i none))::o4 key M) j t=some c ->
   (j=s/\t=0/\c = .rw z es')\/(j=key/\t=0/\c = .hx i (.row (σ key (i+1)).1 (σ key (i+1)).2 z 0 es.length) (rows.set i none))\/(j≠s /\ ¬ (j=key/\t=0) /\ ¬ (j=key/\t=i+1)/\(j=key -> ∃ z es,c = .rw z es)/\c5 M j t=some c):=by
  intro j t c g;by_cases hj:j=s
  ·subst hj
   obtain ⟨rfl,rfl⟩:=WW (c := .rw z es') trivial g;exact Or.inl ⟨rfl,rfl,rfl⟩
  ·rw[RB hj]at g
   by_cases hk:j=key
   ·subst hk
    cases t with
    | zero=>rw[U3]at g;exact Or.inr (Or.inl ⟨rfl,rfl,(Option.some.inj g).symm⟩)
    | succ t =>
     simp only[c5,c9,Nat.beq_refl,cond_true]at g;by_cases pq:i=t
     ·subst pq
      rw[List.getElem?_set_self hi]at g;cases g
     ·rw[List.getElem?_set_ne pq]at g
      refine Or.inr (Or.inr ⟨hj,by omega,by omega,λ_ => ?_,?_⟩)
      ·split at g
       ·exact ⟨_,_,(Option.some.inj g).symm⟩
       ·cases g
      ·simp only[c5,e]
       exact g
   ·rw[RB hk]at g
    obtain ⟨g1,g2⟩:=M3 g;exact Or.inr (Or.inr ⟨hj,by omega,by omega,λ h=>absurd h hk,g2⟩)
 refine ⟨λ j => ?_,⟨?_,?_,?_,?_,?_⟩⟩
 ·rw[fP (W6 ht j)];exact h.tm j
 ·intro j s1 c g
  simp only[c9]at g;cases hb:Nat.beq j s<;>simp only[hb,cond_true,cond_false]at g
  ·rw[CS _ (GO.1 hb)]
   cases u5:Nat.beq j key<;>simp only[u5,cond_true,cond_false]at g
   ·exact h.sat.site _ _ _ (RA g).2
   ·simp only[Option.some.injEq,Prod.mk.injEq]at g
    rw[BJ.1 u5,<-g.1];exact h.sat.site _ _ _ e
  ·simp only[Option.some.injEq,Prod.mk.injEq]at g
   rw[BJ.1 hb,B1,<-g.1]
 ·intro j t c g
  rcases hg j t c g with ⟨rfl,rfl,rfl⟩|⟨rfl,rfl,rfl⟩|⟨h0,h1,h2,h3,g2⟩
  ·rw[B1]
   simp [AJ.j6,CF.new,AJ.g9,CF.o7,A8.e8]
  ·rw[CS _ Dj]
   simp only[A8.e8,gi];exact (UW (λ he=>absurd (h.sat.inj _ _ _ _ _ _ r0 e1 he).2 (by omega)) (h.sat.old _ _ _ r0)).trans (h.sat.e8 _ _ _ r0)
  ·rw[CS _ h0,bF (zk _ _ _ g2).1 h0]
   exact (UW (λ he=>h2 (h.sat.inj _ _ _ _ _ _ g2 e1 he)) (h.sat.old _ _ _ g2)).trans (h.sat.e8 _ _ _ g2)
 ·intro j t c g
  rcases hg j t c g with ⟨rfl,rfl,rfl⟩|⟨rfl,rfl,rfl⟩|⟨h0,h1,h2,h3,g2⟩
  ·rw[B1]
   simp [AJ.j6,CF.new,AJ.g9,CF.o7]
  ·rw[CS _ Dj]
   exact Nat.lt_of_lt_of_le (h.sat.old _ _ _ r0) (UX _)
  ·rw[CS _ h0]
   exact Nat.lt_of_lt_of_le (h.sat.old _ _ _ g2) (UX _)
 ·have hold : ∀ j t c,c5 ((s,(σ key (i+1)).1,.rw z es')::(key,sk,.hx i (.row (σ key (i+1)).1 (σ key (i+1)).2 z 0 es.length) (rows.set i none))::o4 key M) j t=some c->(j=s/\t=0)\/(j≠s /\ ∃ c0,c5 M j t=some c0):=by
   intro j t c g;rcases hg j t c g with ⟨rfl,rfl,rfl⟩|⟨rfl,rfl,rfl⟩|⟨h0,h1,h2,h3,g2⟩
   ·exact Or.inl ⟨rfl,rfl⟩
   ·exact Or.inr ⟨Dj,_,r0⟩
   ·exact Or.inr ⟨h0,_,g2⟩
  have lj : ∀ j0 t0 c0,c5 M j0 t0=some c0->((σ key (i+1)).1,st.own.g9 (σ key (i+1)).1)≠σ j0 t0:=by
   intro j0 t0 c0 g he;have:=h.sat.old _ _ _ g
   rw[<-he]at this;exact absurd this (Nat.lt_irrefl _)
  intro j t j' t' c c' g g' hj;rcases hold j t c g with ⟨rfl,rfl⟩|⟨a1,c1,a2⟩<;>rcases hold j' t' c' g' with ⟨rfl,rfl⟩|⟨b1,c2,b2⟩
  ·exact ⟨rfl,rfl⟩
  ·rw[B1,CS _ b1]at hj;exact absurd hj (lj _ _ _ b2)
  ·rw[B1,CS _ a1]at hj;exact absurd hj.symm (lj _ _ _ a2)
  ·rw[CS _ a1,CS _ b1]at hj
   exact h.sat.inj _ _ _ _ _ _ a2 b2 hj
 ·intro j t c g hw
  rcases hg j t c g with ⟨rfl,rfl,rfl⟩|⟨rfl,rfl,rfl⟩|⟨h0,h1,h2,h3,g2⟩
  ·rw[B1];exact h.sat.low _ _ _ e1 rfl
  ·rw[CS _ Dj];exact h.sat.low _ _ _ r0 rfl
  ·rw[CS _ h0];exact h.sat.low _ _ _ g2 hw
theorem RX.view (h:RX σ tm M st) {k s:Nat} {c0:A8} {rows:List (Option (Nat × List (List AV)))} {w:List Nat} (e:c9 M k=some (s,c0)) (ep:c0 = .mx rows \/ ∃ w0,c0 = .vw w0 rows) :
  RX σ tm ((k,s,.vw w rows)::M) ⟨st.tm,st.own.put s ((st.own s).o7 (σ k 0).2 (some (A8.e8 σ k (.vw w rows))))⟩:=by
 have hs:=h.sat.site _ _ _ e;subst hs;have r0:=EU e;have hg : ∀ j t c,c5 ((k,(σ k 0).1,.vw w rows)::M) j t=some c->(j=k/\t=0/\c = .vw w rows)\/(¬ (j=k/\t=0)/\c5 M j t=some c):=by
  intro j t c g;by_cases hj:j=k
  ·subst hj
   cases t with
   | zero=>rw[U3]at g;exact Or.inl ⟨rfl,rfl,(Option.some.inj g).symm⟩
   | succ t =>
    refine Or.inr ⟨by omega,?_⟩;simp only[c5,c9,Nat.beq_refl,cond_true]at g;rcases ep with rfl|⟨w0,rfl⟩
    ·simp only[c5,e]
     exact g
    ·simp only[c5,e]
     exact g
  ·rw[RB hj]at g
   exact Or.inr ⟨by omega,g⟩
 have nu : ∀ j t c1,c5 ((k,(σ k 0).1,.vw w rows)::M) j t=some c1 -> ∃ c2,c5 M j t=some c2:=by
  intro j t c1 g;rcases hg j t c1 g with ⟨rfl,rfl,rfl⟩|⟨_,h2⟩
  ·exact ⟨_,r0⟩
  ·exact ⟨_,h2⟩
 refine ⟨h.tm,⟨?_,?_,?_,?_,?_⟩⟩
 ·intro j s' c1 g
  simp only[c9]at g;cases hb:Nat.beq j k<;>simp only[hb,cond_true,cond_false]at g
  ·exact h.sat.site _ _ _ g
  ·simp only[Option.some.injEq,Prod.mk.injEq]at g
   rw[BJ.1 hb];exact g.1
 ·intro j t c1 g
  rcases hg j t c1 g with ⟨rfl,rfl,rfl⟩|⟨h1,h2⟩
  ·exact dU
  ·refine (U9 (λ he => ?_)).trans (h.sat.e8 _ _ _ h2)
   exact h1 (h.sat.inj _ _ _ _ _ _ h2 r0 he)
 ·intro j t c1 g
  obtain ⟨c2,e2⟩:=nu _ _ _ g;show (σ j t).2<((st.own.put (σ k 0).1 ((st.own (σ k 0).1).o7 (σ k 0).2 _)) (σ j t).1).g9;rw[ZL];exact h.sat.old _ _ _ e2
 ·intro j t j' t' c1 c2 g1 g2 hj
  obtain ⟨_,Bn⟩:=nu _ _ _ g1;obtain ⟨_,xo⟩:=nu _ _ _ g2;exact h.sat.inj _ _ _ _ _ _ Bn xo hj
 ·intro j t c1 g hw
  rcases hg j t c1 g with ⟨rfl,rfl,rfl⟩|⟨_,h2⟩
  ·exact h.sat.low _ _ _ r0 (by rcases ep with rfl|⟨w0,rfl⟩<;>rfl)
  ·exact h.sat.low _ _ _ h2 hw
theorem RX.Hi (h:RX σ tm M st) {s key s':Nat} {rows:List (Option (Nat × List (List AV)))} (e:c9 M key=some (s',.mx rows)) (hm:H2 s M=false) (ht:JB s tm=false) :
  RX (DC σ s λ t=>match t with|0=>(s',st.own.g9 s')|i+1=>σ key (i+1)) tm ((s,s',.mx (rows++[none]))::o4 key M)
   ⟨st.tm,st.own.put s' (((st.own s').o7 (σ key 0).2 none).new ⟨1,B7 σ key 0 rows++[[.nil]]⟩)⟩:=by
 have hs:=h.sat.site _ _ _ e;subst hs;have r0:=EU e;generalize hF:(λ t=>match t with|0=>((σ key 0).1,st.own.g9 (σ key 0).1)|i+1=>σ key (i+1):Nat->Nat × Nat)=F;have F0:F 0=((σ key 0).1,st.own.g9 (σ key 0).1):=by rw[<-hF]
 have F1 : ∀ i,F (i+1)=σ key (i+1):=by intro i;rw[<-hF]
 have gi:B7 (DC σ s F) s 0 (rows++[none])=B7 σ key 0 rows++[[.nil]]:=by
  apply List.ext_getElem?;intro j;rw[GR,B1];rcases Nat.lt_trichotomy j rows.length with hj|hj|hj
  ·rw[List.getElem?_append_left hj,List.getElem?_append_left (by rw[F6];exact hj),GR]
   congr 1;funext r
   cases r with
   | none=>rfl
   | some x=>simp only[Nat.zero_add];rw[F1]
  ·subst hj
   rw[List.getElem?_append_right (Nat.le_refl _),List.getElem?_append_right (by rw[F6];exact Nat.le_refl _),F6];simp
  ·rw[List.getElem?_eq_none (by simp;omega),List.getElem?_eq_none (by simp [F6];omega)];rfl
 have zk : ∀ j t c',c5 M j t=some c'->IG s c'=false/\j≠s:=by
  intro j t c' g;obtain ⟨s1,c0,g1,g2,g3⟩:=I8 g;obtain ⟨g4,g5⟩:=RF hm _ _ _ g1;refine ⟨?_,g4⟩;cases t with
  | zero=>rw[g2 rfl];exact g5
  | succ i=>obtain ⟨rows,z,es,_,_,rfl⟩:=g3 i rfl;rfl
 have hg : ∀ j t c,c5 ((s,(σ key 0).1,.mx (rows++[none]))::o4 key M) j t=some c ->
   (j=s/\t=0/\c = .mx (rows++[none]))\/(j=s/\t≠0/\c5 M key t=some c)\/(j≠s/\j≠key/\c5 M j t=some c):=by
  intro j t c g;by_cases hj:j=s
  ·subst hj
   cases t with
   | zero=>rw[U3]at g;exact Or.inl ⟨rfl,rfl,(Option.some.inj g).symm⟩
   | succ t =>
    simp only[c5,c9,Nat.beq_refl,cond_true]at g;rcases Nat.lt_trichotomy t rows.length with ju|ju|ju
    ·rw[List.getElem?_append_left ju]at g
     refine Or.inr (Or.inl ⟨rfl,by omega,?_⟩);simp only[c5,e];exact g
    ·subst ju
     rw[List.getElem?_append_right (Nat.le_refl _),Nat.sub_self]at g;simp at g
    ·rw[List.getElem?_eq_none (by simp;omega)]at g;cases g
  ·rw[RB hj]at g
   obtain ⟨g1,g2⟩:=M3 g;exact Or.inr (Or.inr ⟨hj,g1,g2⟩)
 refine ⟨λ j => ?_,⟨?_,?_,?_,?_,?_⟩⟩
 ·rw[fP (W6 ht j)];exact h.tm j
 ·intro j s1 c g
  simp only[c9]at g;cases hb:Nat.beq j s<;>simp only[hb,cond_true,cond_false]at g
  ·rw[CS _ (GO.1 hb)];exact h.sat.site _ _ _ (RA g).2
  ·simp only[Option.some.injEq,Prod.mk.injEq]at g
   rw[BJ.1 hb,B1,F0,<-g.1]
 ·intro j t c g
  rcases hg j t c g with ⟨rfl,rfl,rfl⟩|⟨rfl,h0,g2⟩|⟨h0,h1,g2⟩
  ·rw[B1,F0]
   simp only[A8.e8,gi];simp [AJ.j6,CF.new,AJ.g9,CF.o7]
  ·obtain ⟨t',rfl⟩ : ∃ t',t=t'+1:=⟨t-1,by omega⟩
   rw[B1,F1];have hb:c.e8 (DC σ j F) j=c.e8 σ key:=by
    obtain ⟨_,_,_,_,g3⟩:=I8 g2;obtain ⟨_,_,_,_,_,rfl⟩:=g3 t' rfl;rfl
   rw[hb];exact (UW (λ he=>absurd (h.sat.inj _ _ _ _ _ _ g2 r0 he).2 (by omega)) (h.sat.old _ _ _ g2)).trans (h.sat.e8 _ _ _ g2)
  ·rw[CS _ h0,bF (zk _ _ _ g2).1 h0]
   exact (UW (λ he=>h1 (h.sat.inj _ _ _ _ _ _ g2 r0 he).1) (h.sat.old _ _ _ g2)).trans (h.sat.e8 _ _ _ g2)
 ·intro j t c g
  rcases hg j t c g with ⟨rfl,rfl,rfl⟩|⟨rfl,h0,g2⟩|⟨h0,h1,g2⟩
  ·rw[B1,F0]
   simp [AJ.j6,CF.new,AJ.g9,CF.o7]
  ·obtain ⟨t',rfl⟩ : ∃ t',t=t'+1:=⟨t-1,by omega⟩
   rw[B1,F1];exact Nat.lt_of_lt_of_le (h.sat.old _ _ _ g2) (UX _)
  ·rw[CS _ h0]
   exact Nat.lt_of_lt_of_le (h.sat.old _ _ _ g2) (UX _)
 ·have hold : ∀ j t c,c5 ((s,(σ key 0).1,.mx (rows++[none]))::o4 key M) j t=some c->(j=s/\t=0) \/ ∃ j0 t0 c0,c5 M j0 t0=some c0/\DC σ s F j t=σ j0 t0/\((j0=key/\t0=t/\j=s)\/(j0=j/\t0=t/\j≠key)):=by
   intro j t c g;rcases hg j t c g with ⟨rfl,rfl,rfl⟩|⟨rfl,h0,g2⟩|⟨h0,h1,g2⟩
   ·exact Or.inl ⟨rfl,rfl⟩
   ·obtain ⟨t',rfl⟩ : ∃ t',t=t'+1:=⟨t-1,by omega⟩
    exact Or.inr ⟨_,_,_,g2,by rw[B1,F1],Or.inl ⟨rfl,rfl,rfl⟩⟩
   ·exact Or.inr ⟨_,_,_,g2,by rw[CS _ h0],Or.inr ⟨rfl,rfl,h1⟩⟩
  have lj : ∀ j0 t0 c0,c5 M j0 t0=some c0->DC σ s F s 0≠σ j0 t0:=by
   intro j0 t0 c0 g he;rw[B1,F0]at he;have:=h.sat.old _ _ _ g
   rw[<-he]at this;exact absurd this (Nat.lt_irrefl _)
  intro j t j' t' c c' g g' hj;rcases hold j t c g with ⟨rfl,rfl⟩|⟨j0,t0,c0,a1,a2,a3⟩<;>rcases hold j' t' c' g' with ⟨rfl,rfl⟩|⟨j1,t1,c1,b1,b2,b3⟩
  ·exact ⟨rfl,rfl⟩
  ·rw[b2]at hj;exact absurd hj (lj _ _ _ b1)
  ·rw[a2]at hj;exact absurd hj.symm (lj _ _ _ a1)
  ·rw[a2,b2]at hj
   obtain ⟨q1,q2⟩:=h.sat.inj _ _ _ _ _ _ a1 b1 hj;rcases a3 with ⟨x1,x2,x3⟩|⟨x1,x2,x3⟩<;>rcases b3 with ⟨y1,y2,y3⟩|⟨y1,y2,y3⟩
   ·exact ⟨x3.trans y3.symm,x2.symm.trans (q2.trans y2)⟩
   ·exact absurd (y1.symm.trans (q1.symm.trans x1)) y3
   ·exact absurd (x1.symm.trans (q1.trans y1)) x3
   ·exact ⟨x1.symm.trans (q1.trans y1),x2.symm.trans (q2.trans y2)⟩
 ·intro j t c g hw
  rcases hg j t c g with ⟨rfl,rfl,rfl⟩|⟨rfl,h0,g2⟩|⟨h0,h1,g2⟩
  ·rw[B1,F0];exact h.sat.low _ _ _ r0 rfl
  ·obtain ⟨t',rfl⟩ : ∃ t',t=t'+1:=⟨t-1,by omega⟩
   rw[B1,F1];exact h.sat.low _ _ _ g2 hw
  ·rw[CS _ h0];exact h.sat.low _ _ _ g2 hw
theorem iH {k:Nat} {v:AV} (h:P5 k v=false):R2 k v=false:=by
 cases v with
 | row j t z o n=>simp only[P5]at h;simp only[R2,h,cond_false]
 | ptr j t a b=>simp only[P5]at h;simp only[R2,h,cond_false]
 | _=>rfl
theorem X4 {k:Nat} : ∀ {cs:List AV},JA k cs=false->QX k cs=false
 | [],_=>rfl
 | c::r,h=>by
  simp only[JA]at h;cases h1:P5 k c<;>simp only[h1,cond_true,cond_false]at h
  ·simp only[QX,iH h1,cond_false,X4 h]
  ·cases h
theorem qS {k:Nat} : ∀ {es:List (List AV)},KJ k es=false->V4 k es=false
 | [],_=>rfl
 | c::r,h=>by
  simp only[KJ]at h;cases h1:JA k c<;>simp only[h1,cond_true,cond_false]at h
  ·simp only[V4,X4 h1,cond_false,qS h]
  ·cases h
theorem X3 {k:Nat} {v:AV} (h:SN k v=false):UG k v=false:=by
 cases v with
 | agg cs=>exact X4 h
 | fn p f g cs=>exact X4 h
 | row a b c d e=>exact iH (v := .row a b c d e) h
 | ptr a b c d=>exact iH (v := .ptr a b c d) h
 | _=>rfl
theorem qR {k:Nat} : ∀ {cs:List AV},W5 k cs=false->V3 k cs=false
 | [],_=>rfl
 | c::r,h=>by
  simp only[W5]at h;cases h1:SN k c<;>simp only[h1,cond_true,cond_false]at h
  ·simp only[V3,X3 h1,cond_false,qR h]
  ·cases h
theorem Aec {k:Nat} {v:AV} (h:P6 k v=false):S6 k v=false:=by
 cases v with
 | g8 cs=>exact qR h
 | agg cs=>exact X3 (v := .agg cs) h
 | fn p f g cs=>exact X3 (v := .fn p f g cs) h
 | row a b c d e=>exact X3 (v := .row a b c d e) h
 | ptr a b c d=>exact X3 (v := .ptr a b c d) h
 | _=>rfl
theorem qV {k:Nat} : ∀ {tm:Tm},JB k tm=false->QY k tm=false
 | [],_=>rfl
 | (i,v)::r,h=>by
  simp only[JB]at h;cases h1:P6 k v<;>simp only[h1,cond_true,cond_false]at h
  ·simp only[QY,Aec h1,cond_false,qV h]
  ·cases h
theorem qU {k:Nat} : ∀ {M:Mem},H2 k M=false->LJ k M=false
 | [],_=>rfl
 | (i,s,c)::r,h=>by
  simp only[H2]at h;cases h0:Nat.beq k i<;>simp only[h0,cond_true,cond_false]at h
  ·cases h1:IG k c<;>simp only[h1,cond_true,cond_false]at h
   ·have:R3 k c=false:=by
     cases c with
     | bx cs=>exact X4 h1
     | bs z es=>exact qS h1
     | _=>rfl
    simp only[LJ,this,cond_false,qU h]
   ·cases h
  ·cases h
theorem RX.hid {M1 M2:Mem} (hm : ∀ k,c9 M1 k=c9 M2 k) (h:RX σ tm M1 st):RX σ tm M2 st:=by
 have hr : ∀ k t,c5 M1 k t=c5 M2 k t:=λ k t=>by simp only[c5,hm]
 refine ⟨h.tm,⟨λ k s c e => ?_,λ k t c e => ?_,λ k t c e => ?_,λ k t k' t' c c' e e' => ?_,λ k t c e hw => ?_⟩⟩
 ·rw[<-hm]at e;exact h.sat.site _ _ _ e
 ·rw[<-hr]at e;exact h.sat.e8 _ _ _ e
 ·rw[<-hr]at e;exact h.sat.old _ _ _ e
 ·rw[<-hr]at e e';exact h.sat.inj _ _ _ _ _ _ e e'
 ·rw[<-hr]at e;exact h.sat.low _ _ _ e hw
theorem RX.Ly (h:RX σ tm M st) {s q k2 s2 z:Nat} {es:List (List AV)} (e2:c9 M k2=some (s2,.rw z es)) (hk:s≠k2) (hm:H2 s M=false) (ht:JB s tm=false) (hq:F5 q=true) :
  ∃ σ',σ' s 0=(q,st.own.g9 q)/\RX σ' tm ((s,q,.mx [some (z,es)])::o4 k2 M) ⟨st.tm,st.own.put q ((st.own q).new ⟨1,[[.row (σ k2 0).1 (σ k2 0).2 z 0 es.length]]⟩)⟩:=by
 have fq:A8.flat (.mx [none]):=by
  intro i x hx;cases i with
  | zero=>simp at hx
  | succ i=>simp at hx
 have h1:=h.eg (s:=s) (q:=q) hm ht (.mx [none]) fq rfl (λ_=>hq);have xo:c9 ((s,q,.mx [none])::M) k2=some (s2,.rw z es):=by
  simp only[c9,GO.2 (λ e=>hk e.symm),cond_false];exact e2
 have kf:LJ s ((s,q,.mx [none])::M)=false:=by simp only[LJ,R3,cond_false,qU hm]
 have h2:=h1.zu (k:=s) (s:=q) (k2:=k2) (i:=0) (rows:=[none]) (c0 := .mx [none]) (by simp [c9]) (Or.inl rfl) xo hk (qV ht) kf (by simp);refine ⟨DC σ s (λ t=>if t=0+1 then σ k2 0 else (q,st.own.g9 q)),?_,?_⟩
 ·rw[B1];simp
 ·have hσ:(DC (DC σ s λ_=>(q,st.own.g9 q)) s λ t=>if t=0+1 then (DC σ s λ_=>(q,st.own.g9 q)) k2 0 else (DC σ s λ_=>(q,st.own.g9 q)) s t)=DC σ s (λ t=>if t=0+1 then σ k2 0 else (q,st.own.g9 q)):=by
   funext j t
   by_cases hj:j=s
   ·subst hj;rw[B1,B1];simp only[B1,CS _ (λ e=>hk e.symm)]
   ·rw[CS _ hj,CS _ hj,CS _ hj]
  rw[hσ]at h2;have hM:o4 k2 ((s,q,A8.mx [none])::M)=(s,q,.mx [none])::o4 k2 M:=by
   simp only[o4,GO.2 (λ e=>hk e.symm),cond_false]
  rw[hM]at h2;have ho : ∀ b b':ES,(st.own.put q ((st.own q).new b)).put q (((st.own.put q ((st.own q).new b)) q).o7 (st.own.g9 q) (some b'))=st.own.put q ((st.own q).new b'):=by
   intro b b';rw[AJ.jl,AJ.j6];congr 1;simp only[CF.o7,CF.new,AJ.g9,CF.mk.injEq,true_and];funext t'
   by_cases ju:t'=(st.own q).g9<;>simp [ju]
  have hn:(DC σ s λ_=>(q,st.own.g9 q)) s 0=(q,st.own.g9 q):=by rw[B1]
  have iv:(DC σ s λ_=>(q,st.own.g9 q)) k2=σ k2:=CS _ (λ e=>hk e.symm);simp only[hn,iv]at h2;rw[ho]at h2;refine RX.hid (λ k => ?_) h2;simp only[c9];cases Nat.beq k s<;>rfl
theorem RX.Hh (h:RX σ tm M st) {s key k2 ky s' s2 z:Nat} {rows:List (Option (Nat × List (List AV)))} {es:List (List AV)} (e:c9 M key=some (s',.mx rows)) (e2:c9 M k2=some (s2,.rw z es)) (hk:key≠k2) (hm:H2 s M=false) (ht:JB s tm=false) :
  RX (DC σ s λ t=>match t with|0=>(s',st.own.g9 s')|i+1=>if i=rows.length then σ k2 0 else σ key (i+1)) tm ((s,s',.mx (rows++[some (z,es)]))::o4 key (o4 k2 (o4 ky M)))
   ⟨st.tm,st.own.put s' (((st.own s').o7 (σ key 0).2 none).new ⟨1,B7 σ key 0 rows++[[.row (σ k2 0).1 (σ k2 0).2 z 0 es.length]]⟩)⟩:=by
 have hs:=h.sat.site _ _ _ e;subst hs;have r0:=EU e;have r2:=EU e2;generalize hF:(λ t=>match t with|0=>((σ key 0).1,st.own.g9 (σ key 0).1)|i+1=>if i=rows.length then σ k2 0 else σ key (i+1):Nat->Nat × Nat)=F;have F0:F 0=((σ key 0).1,st.own.g9 (σ key 0).1):=by rw[<-hF]
 have F1 : ∀ i,F (i+1)=if i=rows.length then σ k2 0 else σ key (i+1):=by intro i;rw[<-hF]
 have gi:B7 (DC σ s F) s 0 (rows++[some (z,es)])=B7 σ key 0 rows++[[.row (σ k2 0).1 (σ k2 0).2 z 0 es.length]]:=by
  apply List.ext_getElem?;intro j;rw[GR,B1];rcases Nat.lt_trichotomy j rows.length with hj|hj|hj
  ·rw[List.getElem?_append_left hj,List.getElem?_append_left (by rw[F6];exact hj),GR]
   congr 1;funext r
   cases r with
   | none=>rfl
   | some x=>simp only[Nat.zero_add];rw[F1,if_neg (by omega)]
  ·subst hj
   rw[List.getElem?_append_right (Nat.le_refl _),List.getElem?_append_right (by rw[F6];exact Nat.le_refl _),F6];simp [F1]
  ·rw[List.getElem?_eq_none (by simp;omega),List.getElem?_eq_none (by simp [F6];omega)];rfl
 have zk : ∀ j t c',c5 M j t=some c'->IG s c'=false/\j≠s:=by
  intro j t c' g;obtain ⟨s1,c0,g1,g2,g3⟩:=I8 g;obtain ⟨g4,g5⟩:=RF hm _ _ _ g1;refine ⟨?_,g4⟩;cases t with
  | zero=>rw[g2 rfl];exact g5
  | succ i=>obtain ⟨rows,z,es,_,_,rfl⟩:=g3 i rfl;rfl
 have hg : ∀ j t c,c5 ((s,(σ key 0).1,.mx (rows++[some (z,es)]))::o4 key (o4 k2 (o4 ky M))) j t=some c ->
   (j=s/\t=0/\c = .mx (rows++[some (z,es)]))\/(j=s/\t=rows.length+1/\c = .rw z es)\/(j=s/\t≠0/\t≠rows.length+1/\c5 M key t=some c)\/(j≠s/\j≠key/\j≠k2/\c5 M j t=some c):=by
  intro j t c g;by_cases hj:j=s
  ·subst hj
   cases t with
   | zero=>rw[U3]at g;exact Or.inl ⟨rfl,rfl,(Option.some.inj g).symm⟩
   | succ t =>
    simp only[c5,c9,Nat.beq_refl,cond_true]at g;rcases Nat.lt_trichotomy t rows.length with ju|ju|ju
    ·rw[List.getElem?_append_left ju]at g
     refine Or.inr (Or.inr (Or.inl ⟨rfl,by omega,by omega,?_⟩));simp only[c5,e];exact g
    ·subst ju
     rw[List.getElem?_append_right (Nat.le_refl _),Nat.sub_self]at g;exact Or.inr (Or.inl ⟨rfl,rfl,(Option.some.inj g).symm⟩)
    ·rw[List.getElem?_eq_none (by simp;omega)]at g;cases g
  ·rw[RB hj]at g
   obtain ⟨g1,g2⟩:=M3 g;obtain ⟨g3,g4⟩:=M3 g2;obtain ⟨_,g5⟩:=M3 g4;exact Or.inr (Or.inr (Or.inr ⟨hj,g1,g3,g5⟩))
 refine ⟨λ j => ?_,⟨?_,?_,?_,?_,?_⟩⟩
 ·rw[fP (W6 ht j)];exact h.tm j
 ·intro j s1 c g
  simp only[c9]at g;cases hb:Nat.beq j s<;>simp only[hb,cond_true,cond_false]at g
  ·rw[CS _ (GO.1 hb)];exact h.sat.site _ _ _ (RA (RA (RA g).2).2).2
  ·simp only[Option.some.injEq,Prod.mk.injEq]at g
   rw[BJ.1 hb,B1,F0,<-g.1]
 ·intro j t c g
  rcases hg j t c g with ⟨rfl,rfl,rfl⟩|⟨rfl,rfl,rfl⟩|⟨rfl,h0,h1,g2⟩|⟨h0,h1,h2,g2⟩
  ·rw[B1,F0]
   simp only[A8.e8,gi];simp [AJ.j6,CF.new,AJ.g9,CF.o7]
  ·rw[B1,F1,if_pos rfl]
   exact (UW (λ he=>hk (h.sat.inj _ _ _ _ _ _ r2 r0 he).1.symm) (h.sat.old _ _ _ r2)).trans (h.sat.e8 _ _ _ r2)
  ·obtain ⟨t',rfl⟩ : ∃ t',t=t'+1:=⟨t-1,by omega⟩
   rw[B1,F1,if_neg (by omega)];have hb:c.e8 (DC σ j F) j=c.e8 σ key:=by
    obtain ⟨_,_,_,_,g3⟩:=I8 g2;obtain ⟨_,_,_,_,_,rfl⟩:=g3 t' rfl;rfl
   rw[hb];exact (UW (λ he=>absurd (h.sat.inj _ _ _ _ _ _ g2 r0 he).2 (by omega)) (h.sat.old _ _ _ g2)).trans (h.sat.e8 _ _ _ g2)
  ·rw[CS _ h0,bF (zk _ _ _ g2).1 h0]
   exact (UW (λ he=>h1 (h.sat.inj _ _ _ _ _ _ g2 r0 he).1) (h.sat.old _ _ _ g2)).trans (h.sat.e8 _ _ _ g2)
 ·intro j t c g
  rcases hg j t c g with ⟨rfl,rfl,rfl⟩|⟨rfl,rfl,rfl⟩|⟨rfl,h0,h1,g2⟩|⟨h0,h1,h2,g2⟩
  ·rw[B1,F0]
   simp [AJ.j6,CF.new,AJ.g9,CF.o7]
  ·rw[B1,F1,if_pos rfl]
   exact Nat.lt_of_lt_of_le (h.sat.old _ _ _ r2) (UX _)
  ·obtain ⟨t',rfl⟩ : ∃ t',t=t'+1:=⟨t-1,by omega⟩
   rw[B1,F1,if_neg (by omega)];exact Nat.lt_of_lt_of_le (h.sat.old _ _ _ g2) (UX _)
  ·rw[CS _ h0]
   exact Nat.lt_of_lt_of_le (h.sat.old _ _ _ g2) (UX _)
 ·have hold : ∀ j t c,c5 ((s,(σ key 0).1,.mx (rows++[some (z,es)]))::o4 key (o4 k2 (o4 ky M))) j t=some c->(j=s/\t=0) \/ ∃ j0 t0 c0,c5 M j0 t0=some c0/\DC σ s F j t=σ j0 t0/\((j0=k2/\t0=0/\j=s/\t=rows.length+1)\/(j0=key/\t0=t/\j=s)\/(j0=j/\t0=t/\j≠key/\j≠k2)):=by
   intro j t c g;rcases hg j t c g with ⟨rfl,rfl,rfl⟩|⟨rfl,rfl,rfl⟩|⟨rfl,h0,h1,g2⟩|⟨h0,h1,h2,g2⟩
   ·exact Or.inl ⟨rfl,rfl⟩
   ·exact Or.inr ⟨_,_,_,r2,by rw[B1,F1,if_pos rfl],Or.inl ⟨rfl,rfl,rfl,rfl⟩⟩
   ·obtain ⟨t',rfl⟩ : ∃ t',t=t'+1:=⟨t-1,by omega⟩
    exact Or.inr ⟨_,_,_,g2,by rw[B1,F1,if_neg (by omega)],Or.inr (Or.inl ⟨rfl,rfl,rfl⟩)⟩
   ·exact Or.inr ⟨_,_,_,g2,by rw[CS _ h0],Or.inr (Or.inr ⟨rfl,rfl,h1,h2⟩)⟩
  have lj : ∀ j0 t0 c0,c5 M j0 t0=some c0->DC σ s F s 0≠σ j0 t0:=by
   intro j0 t0 c0 g he;rw[B1,F0]at he;have:=h.sat.old _ _ _ g
   rw[<-he]at this;exact absurd this (Nat.lt_irrefl _)
  intro j t j' t' c c' g g' hj;rcases hold j t c g with ⟨rfl,rfl⟩|⟨j0,t0,c0,a1,a2,a3⟩<;>rcases hold j' t' c' g' with ⟨rfl,rfl⟩|⟨j1,t1,c1,b1,b2,b3⟩
  ·exact ⟨rfl,rfl⟩
  ·rw[b2]at hj;exact absurd hj (lj _ _ _ b1)
  ·rw[a2]at hj;exact absurd hj.symm (lj _ _ _ a1)
  ·rw[a2,b2]at hj
   obtain ⟨q1,q2⟩:=h.sat.inj _ _ _ _ _ _ a1 b1 hj;rcases a3 with ⟨x1,x2,x3,x4⟩|⟨x1,x2,x3⟩|⟨x1,x2,x3,x4⟩<;>rcases b3 with ⟨y1,y2,y3,y4⟩|⟨y1,y2,y3⟩|⟨y1,y2,y3,y4⟩
   ·exact ⟨x3.trans y3.symm,x4.trans y4.symm⟩
   ·exact absurd (y1.symm.trans (q1.symm.trans x1)) hk
   ·exact absurd (y1.symm.trans (q1.symm.trans x1)) y4
   ·exact absurd (x1.symm.trans (q1.trans y1)) hk
   ·exact ⟨x3.trans y3.symm,x2.symm.trans (q2.trans y2)⟩
   ·exact absurd (y1.symm.trans (q1.symm.trans x1)) y3
   ·exact absurd (x1.symm.trans (q1.trans y1)) x4
   ·exact absurd (x1.symm.trans (q1.trans y1)) x3
   ·exact ⟨x1.symm.trans (q1.trans y1),x2.symm.trans (q2.trans y2)⟩
 ·intro j t c g hw
  rcases hg j t c g with ⟨rfl,rfl,rfl⟩|⟨rfl,rfl,rfl⟩|⟨rfl,h0,h1,g2⟩|⟨h0,h1,h2,g2⟩
  ·rw[B1,F0];exact h.sat.low _ _ _ r0 rfl
  ·rw[B1,F1,if_pos rfl];exact h.sat.low _ _ _ r2 rfl
  ·obtain ⟨t',rfl⟩ : ∃ t',t=t'+1:=⟨t-1,by omega⟩
   rw[B1,F1,if_neg (by omega)];exact h.sat.low _ _ _ g2 hw
  ·rw[CS _ h0];exact h.sat.low _ _ _ g2 hw
theorem IY (k:IntKind) (n:Int):BC σ (.int k n) = .int k n:=rfl
theorem IH (b:Bool):BC σ (.bool b) = .bool b:=rfl
theorem JC (l:Bool) (es:List (List AV)):BC σ (.sl l es) = .sl l es:=rfl
theorem DL (k t z o n:Nat):BC σ (.row k t z o n) = .row (σ k t).1 (σ k t).2 z o n:=rfl
theorem E4 (k t i j:Nat):BC σ (.ptr k t i j) = .ptr (σ k t).1 (σ k t).2 i j:=rfl
theorem KL (cs:List AV):BC σ (.u6 cs) = .u6 cs:=rfl
theorem G1:BC σ .nil = .nil:=rfl
theorem J2 (cs:List AV):BC σ (.agg cs) = .agg (cs.map (A7 σ)):=rfl
theorem Akt (v:Value):BC σ (.aj v) = .aj v:=rfl
theorem eL (p:Bool) (f g:Nat) (cs:List AV):BC σ (.fn p f g cs) = .fn p f g (cs.map (A7 σ)):=rfl
theorem J3 (cs:List AV):BC σ (.g8 cs) = .g8 (cs.map (BM σ)):=rfl
def CI.res (own:AJ):CI->AV × AJ
 | .val v=>(v,own)
 | .new s b f=>(f (own.g9 s),own.put s ((own s).new b))
 | .vm s b f=>(f (own.g9 s),own.put s ((own s).new b))
 | .bn v o=>(v,o)
 | .o7 s x=>(.g8 [],own.put s x)
 | .tp s x v=>(v,own.put s x)
theorem iB (st:St) (d:Option Nat) (E:CI):st.app d E=⟨(st.dst d (E.res st.own).1).tm,(E.res st.own).2⟩:=by
 cases E<;>cases d<;>rfl
def BZ (L:Lib) (tm:Tm) (c4:List Nat) (K:AV->Mem->Prop) (op:EH) (st:St):Prop :=
 ∃ E σ' v M',(∀ c,e9 (DE L c) c4 st.ev st.own op=some E)/\K v M'/\(E.res st.own).1=BC σ' v/\RX σ' tm M' ⟨st.tm,(E.res st.own).2⟩
theorem BZ.val {L:Lib} {c4:List Nat} {K:AV->Mem->Prop} {op:EH} (h:RX σ tm M st) (v:AV) (he : ∀ c,e9 (DE L c) c4 st.ev st.own op=some (.val (BC σ v))) (hk:K v M):BZ L tm c4 K op st :=
 ⟨_,σ,v,M,he,hk,rfl,h⟩
variable {L:Lib} {c4:List Nat} {K:AV->Mem->Prop}
theorem Adz {x:AU} (hr:RX σ tm M st) (h:XE L tm M c4 K (.a6 x)):BZ L tm c4 K (.a6 x) st:=by
 simp only[XE]at h;obtain ⟨h1,h2⟩:=cR h;exact BZ.val hr _ (λ C=>by simp only[e9,hr.ev rfl h1]) h2
theorem Yw {s z:Nat} (hr:RX σ tm M st) (h:XE L tm M c4 K (.y8 s z)):BZ L tm c4 K (.y8 s z) st:=by
 simp only[XE]at h;cases fj:F5 s<;>simp only[fj,cond_true,cond_false]at h;obtain ⟨k,h1,h2,h3⟩:=I2 h;refine ⟨_,_,_,_,λ C=>rfl,h3,?_,hr.eg h1 h2 (.rw z []) trivial rfl (λ_=>fj)⟩;simp only[CI.res,DL,E4,B1]
theorem Yr {c a b:AU} (hr:RX σ tm M st) (h:XE L tm M c4 K (.pick c a b)):BZ L tm c4 K (.pick c a b) st:=by
 simp only[XE]at h;split at h
 ·rename_i e
  obtain ⟨h1,h2⟩:=cR h;exact BZ.val hr _ (λ C=>by simp only[e9,hr.ev e (by intro e;cases e),hr.ev rfl h1,IY,IH,JC,DL,E4,KL,G1,J2,J3]) h2
 ·rename_i e
  obtain ⟨h1,h2⟩:=cR h;exact BZ.val hr _ (λ C=>by simp only[e9,hr.ev e (by intro e;cases e),hr.ev rfl h1,IY,IH,JC,DL,E4,KL,G1,J2,J3]) h2
 ·exact h.elim
theorem Aii {op:BinOp} {k k':IntKind} {a b:Int} {v:AV} (h:C4 op k a k' b=some v):BC σ v=v:=by
 cases op<;>simp only[C4]at h<;>split at h<;>first|(obtain rfl:=Option.some.inj h;rfl)|cases h
theorem AiH {k k':IntKind} (h:kq k k'=true):k=k':=by simpa [kq] using h
theorem Yl {op:BinOp} {k k':IntKind} {a b:Int} {K:AV->Prop} (h:iC op k a k' b K) : ∃ v,C4 op k a k' b=some v/\K v:=by
 have key : ∀ (p q:Prop) [Decidable p] (A B:Prop) (c:Bool),(¬ p->q)->AF p q A B->(p/\A)\/(¬ p/\B):=by
  intro p q _ A B _ hq hc;by_cases hp:p
  ·exact Or.inl ⟨hp,hc.1 hp⟩
  ·exact Or.inr ⟨hp,hc.2 (hq hp)⟩
 cases op;all_goals try (exact h)
 all_goals (
  simp only[iC]at h;cases hk:kq k k'<;>simp only[hk,cond_true,cond_false]at h;obtain rfl:=AiH hk;simp only[C4,if_true])
 ·rcases key (a=b) _ _ _ true (λ e=>e) h with ⟨h1,h2⟩|⟨h1,h2⟩
  ·exact ⟨_,rfl,by rw[show (a == b)=true by simpa using h1];exact h2⟩
  ·exact ⟨_,rfl,by rw[show (a == b)=false by simpa using h1];exact h2⟩
 ·rcases key (a≠b) _ _ _ true (λ e=>by omega) h with ⟨h1,h2⟩|⟨h1,h2⟩
  ·exact ⟨_,rfl,by rw[show (a != b)=true by simpa using h1];exact h2⟩
  ·exact ⟨_,rfl,by rw[show (a != b)=false by simpa using h1];exact h2⟩
 ·rcases key (a<b) _ _ _ true (λ e=>by omega) h with ⟨h1,h2⟩|⟨h1,h2⟩
  ·exact ⟨_,rfl,by simpa [h1] using h2⟩
  ·exact ⟨_,rfl,by simpa [h1] using h2⟩
 ·rcases key (a<=b) _ _ _ true (λ e=>by omega) h with ⟨h1,h2⟩|⟨h1,h2⟩
  ·exact ⟨_,rfl,by simpa [h1] using h2⟩
  ·exact ⟨_,rfl,by simpa [h1] using h2⟩
 ·rcases key (b<a) _ _ _ true (λ e=>by omega) h with ⟨h1,h2⟩|⟨h1,h2⟩
  ·exact ⟨_,rfl,by simpa [h1] using h2⟩
  ·exact ⟨_,rfl,by simpa [h1] using h2⟩
 ·rcases key (b<=a) _ _ _ true (λ e=>by omega) h with ⟨h1,h2⟩|⟨h1,h2⟩
  ·exact ⟨_,rfl,by simpa [h1] using h2⟩
  ·exact ⟨_,rfl,by simpa [h1] using h2⟩
theorem Zz {op:BinOp} {x y:AU} (hr:RX σ tm M st) (h:XE L tm M c4 K (.bin op x y)):BZ L tm c4 K (.bin op x y) st:=by
 simp only[XE]at h;split at h
 ·rename_i k a k' b e1 e2
  obtain ⟨v,hv,hk⟩:=Yl h;exact BZ.val hr v (λ C=>by
   simp only[e9,hr.ev e1 (by intro e;cases e),hr.ev e2 (by intro e;cases e),IY,IH,JC,DL,E4,KL,G1,J2,J3,hv,Option.map_some];exact congrArg some (congrArg CI.val (Aii (σ:=σ) hv).symm)) hk
 ·exact h.elim
theorem Zy {ne:Bool} {x y:AU} (hr:RX σ tm M st) (h:XE L tm M c4 K (.beq ne x y)):BZ L tm c4 K (.beq ne x y) st:=by
 simp only[XE]at h;split at h
 ·rename_i a b e1 e2
  rw[TF]at h;exact BZ.val hr _ (λ C=>by
   simp only[e9,hr.ev e1 (by intro e;cases e),hr.ev e2 (by intro e;cases e),IY,IH,JC,DL,E4,KL,G1,J2,J3];cases ne<;>rfl) h
 ·exact h.elim
theorem Yv {op:UnOp} {x:AU} (hr:RX σ tm M st) (h:XE L tm M c4 K (.un op x)):BZ L tm c4 K (.un op x) st:=by
 simp only[XE]at h;split at h
 ·rename_i k n e1
  obtain ⟨v,hv,hk⟩:=h;refine BZ.val hr v (λ C => ?_) hk;simp only[e9,hr.ev e1 (by intro e;cases e),IY,IH,JC,DL,E4,KL,G1,J2,J3,hv,Option.map_some];cases op<;>simp only[TV,Option.some.injEq,reduceCtorEq]at hv<;>subst hv<;>rfl
 ·rename_i b e1
  split at h
  ·rw[TF]at h
   exact BZ.val hr _ (λ C=>by simp only[e9,hr.ev e1 (by intro e;cases e),IY,IH,JC,DL,E4,KL,G1,J2,J3,TV,Option.map_some]) h
  ·exact h.elim
 ·exact h.elim
theorem Adn {k:IntKind} {x:AU} (hr:RX σ tm M st) (h:XE L tm M c4 K (.conv k x)):BZ L tm c4 K (.conv k x) st:=by
 simp only[XE]at h;split at h
 ·rename_i k' n e1
  exact BZ.val hr _ (λ C=>by simp only[e9,hr.ev e1 (by intro e;cases e),IY,IH,JC,DL,E4,KL,G1,J2,J3]) h.h
 ·exact h.elim
theorem Adk {s:Nat} {x:AU} (hr:RX σ tm M st) (h:XE L tm M c4 K (.box s x)):BZ L tm c4 K (.box s x) st:=by
 simp only[XE]at h;obtain ⟨h0,cs,hc,h⟩:=cQ h;obtain ⟨k,h1,h2,h3⟩:=I2 h;refine ⟨.new s (A8.e8 σ k (.bx cs)) (λ t => .ptr s t 0 0),_,_,_,λ C => ?_,h3,?_,hr.eg h1 h2 (.bx cs) trivial (Oo (vW h2 x) hc) (λ h=>nomatch h)⟩
 ·simp only[e9,hr.ev rfl h0,QW hc,List.length_map,A8.e8]
 ·simp only[CI.res,DL,E4,B1]
theorem Zu {s:Nat} {z:List AV} (hr:RX σ tm M st) (h:XE L tm M c4 K (.alloc s z)):BZ L tm c4 K (.alloc s z) st:=by
 simp only[XE]at h;cases hd:EW z<;>simp only[hd,cond_true,cond_false]at h;obtain ⟨k,h1,h2,h3⟩:=I2 h;refine ⟨.new s (A8.e8 σ k (.bx z)) (λ t => .ptr s t 0 0),_,_,_,λ C => ?_,h3,?_,hr.eg h1 h2 (.bx z) trivial (iT hd) (λ h=>nomatch h)⟩
 ·simp only[e9,A8.e8,KD hd]
 ·simp only[CI.res,DL,E4,B1]
theorem dQ {cs ds:List AV} {off n:Nat} (h:part cs off n=some ds):part (cs.map (A7 σ)) off n=some (ds.map (A7 σ)):=by
 simp only[part]at h ⊢;split at h
 ·rename_i hl
  rw[if_pos (by simpa using hl)];obtain rfl:=Option.some.inj h;rw[List.map_take,List.map_drop]
 ·cases h
theorem vY {v:AV} {K:AV->Prop} (h:fF v K):v ≠ .any/\BC σ v=A7 σ v/\K v:=by
 cases v<;>simp only[fF]at h<;>first|exact h.elim|exact ⟨(by intro e;cases e),rfl,h⟩
theorem TM (σ:GN) {agg:Bool} {ds:List AV} {K:AV->Prop} (h:oc agg ds K) : ∃ v,LQ agg (ds.map (A7 σ))=some (BC σ v)/\K v:=by
 cases agg
 ·simp only[oc]at h
  split at h
  ·rename_i c
   obtain ⟨_,h1,h2⟩:=vY (σ:=σ) h;exact ⟨c,by rw[h1];rfl,h2⟩
  ·exact h.elim
 ·exact ⟨.agg ds,rfl,h⟩
theorem Mh {cs vs:List AV} {j:Nat}:(splice cs j vs).map (A7 σ)=splice (cs.map (A7 σ)) j (vs.map (A7 σ)):=by
 simp only[splice,List.map_append,List.map_take,List.map_drop,List.length_map]
theorem wD (hr:RX σ tm M st) : ∀ {ps:List (Nat × Nat × AU)} {cells:List AV} {K:List AV->Prop},kJ tm ps cells K -> ∃ cs,fill (cells.map (A7 σ)) (ps.map λ p=>(p.1,p.2.1,st.ev p.2.2))=some (cs.map (A7 σ))/\K cs
 | [],cells,K,h=>⟨cells,rfl,h⟩
 | p::r,cells,K,h=>by
  obtain ⟨h0,vs,hc,h⟩:=cQ (show fC (ex tm p.2.2) λ vs=>bif Nat.beq vs.length p.2.1 then bif Nat.ble (p.1+p.2.1) cells.length then fL (splice cells p.1 vs) λ cells=>kJ tm r cells K else False else False from h);cases hz:Nat.beq vs.length p.2.1<;>simp only[hz,cond_true,cond_false]at h;have hl:Nat.ble (p.1+p.2.1) cells.length=true:=by
   cases hl:Nat.ble (p.1+p.2.1) cells.length
   ·rw[hl]at h;exact h.elim
   ·rfl
  rw[hl]at h;simp only[cond_true,IP]at h;obtain ⟨cs,h1,h2⟩:=wD hr h;refine ⟨cs,?_,h2⟩;simp only[List.map_cons,fill,hr.ev rfl h0,QW hc,List.length_map];rw[if_pos ⟨BJ.1 hz,Nat.le_of_ble_eq_true hl⟩,<-Mh];exact h1
theorem Adm {z:List AV} {ps:List (Nat × Nat × AU)} (hr:RX σ tm M st) (h:XE L tm M c4 K (.build z ps)):BZ L tm c4 K (.build z ps) st:=by
 simp only[XE]at h;cases hd:EW z<;>simp only[hd,cond_true,cond_false]at h;obtain ⟨cs,h1,h2⟩:=wD hr h;refine BZ.val hr (.agg cs) (λ C => ?_) h2;rw[KD hd]at h1;simp only[e9,h1];rfl
theorem vU : ∀ l:List AU,TE tm l=l.map (ex tm)
 | []=>rfl
 | x::r=>by rw[TE,vU r];rfl
theorem rX : ∀ {es:List (List AV)},YE es=true -> ∀ e∈es,EW e=true
 | e0::r,h,e,he=>by
  simp only[YE]at h;cases h1:EW e0<;>simp only[h1,cond_true,cond_false]at h
  ·cases h
  ·rcases List.mem_cons.1 he with rfl|he
   ·exact h1
   ·exact rX h e he
theorem AeU {es:List (List AV)} (h : ∀ e∈es,EW e=true):(es.map λ cs=>cs.map (A7 σ))=es:=by
 conv=>rhs;rw[<-List.map_id es]
 exact List.map_congr_left λ e he=>KD (h e he)
theorem lQ {es:List (List AV)} {K:Nat->Prop} (h:Y8 es K):K es.length:=by
 unfold Y8 at h;split at h<;>exact h
theorem qL (hr:RX σ tm M st) {z:Nat} : ∀ {l:List AU} {K:List (List AV)->Prop},iF tm z l K -> ∃ es,l.mapM (λ x=>cellsOf (st.ev x))=some (es.map λ cs=>cs.map (A7 σ))/\(∀ e∈es,e.length=z)/\(∀ k,JB k tm=false->KJ k es=false)/\K es
 | [],K,h=>⟨[],rfl,(λ e he=>by cases he),λ_ _=>rfl,h⟩
 | x::r,K,h=>by
  obtain ⟨h0,cs,hc,h⟩:=cQ (show fC (ex tm x) λ cs=>bif Nat.beq cs.length z then iF tm z r λ es=>K (cs::es) else False from h);cases hz:Nat.beq cs.length z<;>simp only[hz,cond_true,cond_false]at h;obtain ⟨es,h1,h2,h4,h3⟩:=qL hr h;refine ⟨cs::es,?_,λ e he => ?_,λ k hk => ?_,h3⟩
  ·rw[List.mapM_cons,h1,hr.ev rfl h0,QW hc];rfl
  ·rcases List.mem_cons.1 he with rfl|he
   ·exact BJ.1 hz
   ·exact h2 e he
  ·simp only[KJ,Oo (vW hk x) hc,cond_false,h4 k hk]
theorem evL (hr:RX σ tm M st) {xs:List AU} (h : ∀ v∈TE tm xs,v ≠ .any):xs.map st.ev=(TE tm xs).map (BC σ):=by
 rw[vU]at h ⊢;rw[List.map_map];exact List.map_congr_left λ x hx=>hr.ev rfl (h _ (List.mem_map_of_mem hx))
theorem Adl {s z:Nat} {ps:List AU} (hr:RX σ tm M st) (h:XE L tm M c4 K (.b7 s z ps)):BZ L tm c4 K (.b7 s z ps) st:=by
 simp only[XE]at h;cases fj:F5 s<;>simp only[fj,cond_true,cond_false]at h;obtain ⟨es,g1,g2,g3,h⟩:=qL hr h;obtain ⟨k,h1,h2,h3⟩:=I2 (lQ h);have key : ∀ c:A8,c.flat->IG k c=false->c.e8 σ k=⟨z,es.map λ cs=>cs.map (A7 σ)⟩->K (.row k 0 z 0 es.length) ((k,s,c)::M)->BZ L tm c4 K (.b7 s z ps) st:=by
  intro c hf hc hb hk;refine ⟨.new s (c.e8 σ k) (λ t => .row s t z 0 es.length),_,_,_,λ C => ?_,hk,?_,hr.eg h1 h2 c hf hc (λ_=>fj)⟩
  ·simp only[e9,g1,hb]
   rw[if_pos (λ e he=>by obtain ⟨e',fh,rfl⟩:=List.mem_map.1 he;simpa using g2 e' fh)];simp only[List.length_map]
  ·simp only[CI.res,DL,B1]
 cases hd:YE es<;>simp only[hd,cond_true,cond_false]at h3
 ·exact key (.bs z es) trivial (g3 k h2) rfl h3
 ·exact key (.rw z es) trivial rfl (by simp only[A8.e8];rw[AeU (rX hd)]) h3
theorem Adp {x:AU} {off:Nat} (hr:RX σ tm M st) (h:XE L tm M c4 K (.a5 x off)):BZ L tm c4 K (.a5 x off) st:=by
 simp only[XE]at h;split at h
 ·rename_i key t i j e
  exact BZ.val hr _ (λ C=>by simp only[e9,hr.ev e (by intro e;cases e),IY,IH,JC,DL,E4,KL,G1,J2,J3]) h
 ·rename_i cs e
  rw[IP]at h;exact BZ.val hr _ (λ C=>by simp only[e9,hr.ev e (by intro e;cases e),IY,IH,JC,DL,E4,KL,G1,J2,J3]) h
 ·exact h.elim
theorem Adq {x:AU} {off n:Nat} {agg:Bool} (hr:RX σ tm M st) (h:XE L tm M c4 K (.lq x off n agg)):BZ L tm c4 K (.lq x off n agg) st:=by
 simp only[XE]at h;split at h
 ·rename_i cs e
  split at h
  ·rename_i ds hp
   rw[IP]at h;obtain ⟨v,h1,h2⟩:=TM σ h;exact BZ.val hr v (λ C=>by simp only[e9,hr.ev e (by intro e;cases e),J2,dQ hp,h1,Option.map_some]) h2
  ·exact h.elim
 ·exact h.elim
theorem Ads {arr:Option Nat} {z:Nat} {x i:AU} (hr:RX σ tm M st) (h:XE L tm M c4 K (.a8 arr z x i)):BZ L tm c4 K (.a8 arr z x i) st:=by
 simp only[XE]at h;split at h
 ·rename_i kd n e1
  split at h
  ·rename_i len key t i' j e2
   obtain ⟨h1,h2⟩:=h;exact BZ.val hr _ (λ C=>by simp only[e9,hr.ev e1 (by intro e;cases e),hr.ev e2 (by intro e;cases e),IY,IH,JC,DL,E4,KL,G1,J2,J3];rw[if_pos h1]) h2
  ·rename_i len cs e2
   obtain ⟨h1,h2⟩:=h;rw[IP]at h2;exact BZ.val hr _ (λ C=>by simp only[e9,hr.ev e1 (by intro e;cases e),hr.ev e2 (by intro e;cases e),IY,IH,JC,DL,E4,KL,G1,J2,J3];rw[if_pos h1]) h2
  ·rename_i key t z' off len e2
   cases hz:Nat.beq z' z<;>simp only[hz,cond_true,cond_false]at h;obtain ⟨h1,h2⟩:=h;exact BZ.val hr _ (λ C=>by simp only[e9,hr.ev e1 (by intro e;cases e),hr.ev e2 (by intro e;cases e),IY,IH,JC,DL,E4,KL,G1,J2,J3];rw[if_pos ⟨h1.1,h1.2,BJ.1 hz⟩]) h2
  ·rename_i q es e2
   obtain ⟨h1,cs,h2,h3,h4⟩:=h;exact BZ.val hr _ (λ C=>by simp only[e9,hr.ev e1 (by intro e;cases e),hr.ev e2 (by intro e;cases e),IY,IH,JC,DL,E4,KL,G1,J2,J3,h2];rw[if_pos h1,if_pos h3]) h4
  ·exact h.elim
 ·exact h.elim
theorem W1 {s:Nat} {own:AJ} : ∀ {c4:List Nat},TN s c4=true->own.m7 c4 s=own s
 | [],_=>rfl
 | b::r,h=>by
  have hm:KX s (b::r)=false:=by simpa [TN] using h
  have : ∀ l:List Nat,KX s l=false->own.m7 l s=own s:=by
   intro l;induction l with
   | nil=>intro _;rfl
   | cons b r ih =>
    intro h;simp only[KX]at h;cases hb:Nat.beq s b<;>simp only[hb,cond_true,cond_false]at h
    ·simp only[AJ.m7]
     rw[if_neg (GO.1 hb)];exact ih h
    ·cases h
  exact this _ hm
theorem mJ {s:Nat} {own:AJ} (hs:F5 s=true) : ∀ {c4:List Nat},U6 c4=true->own.m7 c4 s=own s
 | [],_=>rfl
 | b::r,h=>by
  simp only[U6]at h;cases hb:F5 b<;>simp only[hb,cond_true,cond_false]at h
  ·have l9:s≠b:=λ e=>by rw[e,hb]at hs;cases hs
   show (if s=b then _ else own.m7 r s)=own s;rw[if_neg l9];exact mJ hs h
  ·cases h
theorem Adu {agg:Bool} {n:Nat} {x:AU} (hr:RX σ tm M st) (h:XE L tm M c4 K (.ld agg n x)):BZ L tm c4 K (.ld agg n x) st:=by
 simp only[XE]at h;split at h
 ·rename_i key t i j e
  split at h
  ·rename_i s c hm
   have hs:=hr.sat.site _ _ _ hm;split at h
   ·cases hb:TN s c4<;>simp only[hb,cond_true,cond_false]at h
    have w6:=hr.sat.e8 _ _ _ (EU hm);rw[hs]at w6;split at h
    ·rename_i cs
     cases hi:Nat.beq i 0<;>simp only[hi,cond_true,cond_false]at h;obtain rfl:=BJ.1 hi;split at h
     ·rename_i ds hp
      rw[IP]at h;obtain ⟨v,h1,h2⟩:=TM σ h;exact BZ.val hr v (λ C=>by
       simp only[e9,hr.ev e (by intro e;cases e),E4,AJ.nc,AJ.get,hs];rw[W1 hb,w6];simp only[A8.e8,List.getElem?_cons_zero,dQ hp,h1,Option.map_some]) h2
     ·exact h.elim
    ·rename_i z es
     obtain ⟨cs,ds,g1,g2,h⟩:=h;rw[IP]at h;cases hd:EW ds<;>simp only[hd,cond_true,cond_false]at h;obtain ⟨v,h1,h2⟩:=TM σ h;rw[KD hd]at h1;exact BZ.val hr v (λ C=>by
      simp only[e9,hr.ev e (by intro e;cases e),E4,AJ.nc,AJ.get,hs];rw[W1 hb,w6];simp only[A8.e8,g1,g2,h1,Option.map_some]) h2
    ·rename_i z es
     split at h
     ·rename_i cs g1
      split at h
      ·rename_i ds hp
       rw[IP]at h;obtain ⟨v,h1,h2⟩:=TM σ h;exact BZ.val hr v (λ C=>by
        simp only[e9,hr.ev e (by intro e;cases e),E4,AJ.nc,AJ.get,hs];rw[W1 hb,w6];simp only[A8.e8,List.getElem?_map,g1,Option.map_some,dQ hp,h1]) h2
      ·exact h.elim
     ·exact h.elim
    ·rename_i rows
     cases hj:Nat.beq j 0<;>simp only[hj,cond_true,cond_false]at h;cases hn:Nat.beq n 1<;>simp only[hn,cond_true,cond_false]at h;obtain rfl:=BJ.1 hj;obtain rfl:=BJ.1 hn;obtain ⟨r,g1,h⟩:=h;have fin : ∀ c:AV,(B7 σ key 0 rows)[i]? = some [A7 σ c]->oc agg [c] (λ v=>K v M)->BZ L tm c4 K (.ld agg 1 x) st:=by
      intro c hc h;obtain ⟨v,h1,h2⟩:=TM σ h;have hp:part [A7 σ c] 0 1=some [A7 σ c]:=by simp [part]
      exact BZ.val hr v (λ C=>by
       simp only[e9,hr.ev e (by intro e;cases e),E4,AJ.nc,AJ.get,hs];rw[W1 hb,w6];simp only[A8.e8,hc,hp];simp only[List.map_cons,List.map_nil]at h1;simp only[h1,Option.map_some]) h2
     split at h
     ·rename_i z es
      exact fin _ (by rw[GR,g1];simp [A7]) h
     ·exact fin _ (by rw[GR,g1];simp [A7]) h
    ·exact h.elim
    ·exact h.elim
   ·rename_i i'
    split at h
    ·rename_i rows
     obtain ⟨z,es,g0,cs,ds,g1,g2,h⟩:=h;rw[IP]at h;cases hd:EW ds<;>simp only[hd,cond_true,cond_false]at h;obtain ⟨v,h1,h2⟩:=TM σ h;rw[KD hd]at h1;have w6:=hr.sat.e8 key (i'+1) (.rw z es) (by simp [c5,hm,g0]);exact BZ.val hr v (λ C=>by
      simp only[e9,hr.ev e (by intro e;cases e),E4,AJ.nc,AJ.get,AJ.m7];rw[w6];simp only[A8.e8,g1,g2,h1,Option.map_some]) h2
    ·rename_i rows b r
     cases hb:U6 (b::r)<;>simp only[hb,cond_true,cond_false]at h;obtain ⟨z,es,g0,cs,ds,g1,g2,h⟩:=h;rw[IP]at h;cases hd:EW ds<;>simp only[hd,cond_true,cond_false]at h;obtain ⟨v,h1,h2⟩:=TM σ h;rw[KD hd]at h1;have g':c5 M key (i'+1)=some (.rw z es):=by simp [c5,hm,g0]
     have w6:=hr.sat.e8 key (i'+1) (.rw z es) g';have fj:=hr.sat.low key (i'+1) _ g' rfl;exact BZ.val hr v (λ C=>by
      simp only[e9,hr.ev e (by intro e;cases e),E4,AJ.nc,AJ.get];rw[mJ fj hb,w6];simp only[A8.e8,g1,g2,h1,Option.map_some]) h2
    ·exact h.elim
  ·exact h.elim
 ·rename_i cs e
  split at h
  ·rename_i ds hp
   rw[IP]at h;cases hd:EW ds<;>simp only[hd,cond_true,cond_false]at h;obtain ⟨v,h1,h2⟩:=TM σ h;rw[KD hd]at h1;exact BZ.val hr v (λ C=>by simp only[e9,hr.ev e (by intro e;cases e),KL,hp,h1,Option.map_some]) h2
  ·exact h.elim
 ·exact h.elim
theorem pW {n:Nat} {x v:AU} (hr:RX σ tm M st) (h:XE L tm M c4 K (.st n x v)):BZ L tm c4 K (.st n x v) st:=by
 simp only[XE,oA]at h;split at h
 ·rename_i key t i j e
  obtain ⟨h0,vs,hc,h5⟩:=cQ h;clear h;cases hn:Nat.beq vs.length n<;>simp only[hn,cond_true,cond_false]at h5;have nx:=BJ.1 hn;split at h5
  ·rename_i s c hm
   have hs:=hr.sat.site _ _ _ hm;split at h5
   ·have w6:=hr.sat.e8 _ _ _ (EU hm)
    rw[hs]at w6;split at h5
    ·rename_i cs
     cases hi:Nat.beq i 0<;>simp only[hi,cond_true,cond_false]at h5;obtain rfl:=BJ.1 hi;have hl:Nat.ble (j+vs.length) cs.length=true:=by
      cases hl:Nat.ble (j+vs.length) cs.length
      ·rw[hl]at h5;exact h5.elim
      ·rfl
     rw[hl]at h5;simp only[cond_true,IP]at h5;refine ⟨.bn (.g8 []) (st.own.put s ((st.own s).o7 (σ key 0).2 (some (A8.e8 σ key (.bx (splice cs j vs)))))),σ,_,_,λ C => ?_,h5,rfl,hr.Mb hm trivial _ trivial (λ h=>nomatch h)⟩;simp only[e9,hr.ev e (by intro e;cases e),E4,hr.ev rfl h0,QW hc,List.length_map];rw[if_pos nx];simp only[AJ.jm,AJ.get,hs,w6,A8.e8,List.getElem?_cons_zero,List.length_map];rw[if_pos (Nat.le_of_ble_eq_true hl)];simp only[Option.map_some,List.set_cons_zero,Mh];have:(splice cs j vs).length=cs.length:=by
      have:=Nat.le_of_ble_eq_true hl
      simp only[splice,List.length_append,List.length_take,List.length_drop];omega
     rw[this]
    ·rename_i z es
     cases hd:EW vs<;>simp only[hd,cond_true,cond_false]at h5;obtain ⟨cs,g1,g2,h5⟩:=h5;refine ⟨.bn (.g8 []) (st.own.put s ((st.own s).o7 (σ key 0).2 (some (A8.e8 σ key (.rw z (es.set i (splice cs j vs))))))),σ,_,_,λ C => ?_,h5,rfl,hr.Mb hm trivial _ trivial (λ_=>rfl)⟩;simp only[e9,hr.ev e (by intro e;cases e),E4,hr.ev rfl h0,QW hc,KD hd];rw[if_pos nx];simp only[AJ.jm,AJ.get,hs,w6,A8.e8,g1];rw[if_pos g2];rfl
    ·exact h5.elim
    ·rename_i rows
     split at h5
     ·rename_i w7 z m
      cases gy:Nat.beq key w7<;>simp only[gy,cond_true,cond_false]at h5;cases bg:QY key tm<;>simp only[bg,cond_true,cond_false]at h5;cases kf:LJ key M<;>simp only[kf,cond_true,cond_false]at h5;cases hj:Nat.beq j 0<;>simp only[hj,cond_true,cond_false]at h5;obtain rfl:=BJ.1 hj;split at h5
      ·rename_i s2 z' es bh
       cases hz:Nat.beq z z'<;>simp only[hz,cond_true,cond_false]at h5;obtain rfl:=BJ.1 hz;rw[Q8]at h5;obtain ⟨rfl,hi,h5⟩:=h5;have hlen:(B7 σ key 0 rows)[i]? = some ((B7 σ key 0 rows)[i]'(by rw[F6];exact hi)):=zE _;have jf:((B7 σ key 0 rows)[i]'(by rw[F6];exact hi)).length=1:=by
        have:=GR (σ:=σ) (k:=key) rows 0 i
        rw[hlen,zE hi]at this;simp only[Option.map_some,Option.some.injEq]at this;rw[this];split<;>rfl
       refine ⟨.bn (.g8 []) (st.own.put s ((st.own s).o7 (σ key 0).2 (some ⟨1,(B7 σ key 0 rows).set i [.row (σ w7 0).1 (σ w7 0).2 z 0 es.length]⟩))),_,_,_,λ C => ?_,h5,rfl,hr.zu hm (Or.inl rfl) bh (GO.1 gy) bg kf hi⟩;simp only[e9,hr.ev e (by intro e;cases e),E4,hr.ev rfl h0,QW hc,List.length_map];rw[if_pos nx];simp only[AJ.jm,AJ.get,hs,w6,A8.e8,hlen,List.map_cons,List.map_nil,List.length_cons,List.length_nil,A7];rw[if_pos (by omega)];simp only[Option.map_some];have Ee:splice ((B7 σ key 0 rows)[i]'(by rw[F6];exact hi)) 0 [.row (σ w7 0).1 (σ w7 0).2 z 0 es.length]=[.row (σ w7 0).1 (σ w7 0).2 z 0 es.length]:=by
        simp only[splice,List.take_zero,List.nil_append,List.length_cons,List.length_nil,Nat.zero_add];rw[List.drop_of_length_le (by omega)];rfl
       rw[Ee]
      ·exact h5.elim
     ·rename_i w7 t2 z m
      cases gy:Nat.beq key w7<;>simp only[gy,cond_true,cond_false]at h5;cases hj:Nat.beq j 0<;>simp only[hj,cond_true,cond_false]at h5;obtain rfl:=BJ.1 hj;obtain rfl:=BJ.1 gy;obtain ⟨z',es,g0,h5⟩:=h5;cases hz:Nat.beq z z'<;>simp only[hz,cond_true,cond_false]at h5;obtain rfl:=BJ.1 hz;obtain ⟨⟨rfl,hi⟩,h5⟩:=h5;have u5:A8.e8 σ key (.vw ((List.range rows.length).set i t2) rows)=⟨1,(B7 σ key 0 rows).set i [.row (σ key (t2+1)).1 (σ key (t2+1)).2 z 0 es.length]⟩:=by
       simp only[A8.e8];congr 1;apply List.ext_getElem?;intro p;rw[List.getElem?_map];by_cases hp:i=p
       ·subst hp
        rw[List.getElem?_set_self (by rw[List.length_range];exact hi),List.getElem?_set_self (by rw[F6];exact hi),Option.map_some,GR,g0];simp
       ·rw[List.getElem?_set_ne hp,List.getElem?_set_ne hp,GR]
        by_cases zf:p<rows.length
        ·rw[List.getElem?_range zf,Option.map_some,GR,zE zf,Option.map_some,Option.getD_some]
        ·rw[List.getElem?_eq_none (by rw[List.length_range];omega),List.getElem?_eq_none (by omega)];rfl
      have hv:=hr.view (w:=(List.range rows.length).set i t2) hm (Or.inl rfl);have hlen:(B7 σ key 0 rows)[i]? = some ((B7 σ key 0 rows)[i]'(by rw[F6];exact hi)):=zE _;have jf:((B7 σ key 0 rows)[i]'(by rw[F6];exact hi)).length=1:=by
       have:=GR (σ:=σ) (k:=key) rows 0 i
       rw[hlen,zE hi]at this;simp only[Option.map_some,Option.some.injEq]at this;rw[this];split<;>rfl
      refine ⟨.bn (.g8 []) (st.own.put s ((st.own s).o7 (σ key 0).2 (some (A8.e8 σ key (.vw ((List.range rows.length).set i t2) rows))))),_,_,_,λ C => ?_,h5,rfl,hv⟩;rw[u5];simp only[e9,hr.ev e (by intro e;cases e),E4,hr.ev rfl h0,QW hc,List.length_map];rw[if_pos nx];simp only[AJ.jm,AJ.get,hs,w6,A8.e8,hlen,List.map_cons,List.map_nil,List.length_cons,List.length_nil,A7];rw[if_pos (by omega)];simp only[Option.map_some];have Ee:splice ((B7 σ key 0 rows)[i]'(by rw[F6];exact hi)) 0 [.row (σ key (t2+1)).1 (σ key (t2+1)).2 z 0 es.length]=[.row (σ key (t2+1)).1 (σ key (t2+1)).2 z 0 es.length]:=by
       simp only[splice,List.take_zero,List.nil_append,List.length_cons,List.length_nil,Nat.zero_add];rw[List.drop_of_length_le (by omega)];rfl
      rw[Ee]
     ·exact h5.elim
    ·rename_i i0 v0 rows
     split at h5
     ·rename_i w7 z m
      cases gy:Nat.beq key w7<;>simp only[gy,cond_true,cond_false]at h5;cases bg:QY key tm<;>simp only[bg,cond_true,cond_false]at h5;cases kf:LJ key M<;>simp only[kf,cond_true,cond_false]at h5;cases hj:Nat.beq j 0<;>simp only[hj,cond_true,cond_false]at h5;obtain rfl:=BJ.1 hj;split at h5
      ·rename_i s2 z' es bh
       cases hz:Nat.beq z z'<;>simp only[hz,cond_true,cond_false]at h5;obtain rfl:=BJ.1 hz;rw[Q8]at h5;obtain ⟨⟨rfl,rfl⟩,hi,h5⟩:=h5;refine ⟨.bn (.g8 []) (st.own.put s ((st.own s).o7 (σ key 0).2 (some ⟨1,(B7 σ key 0 rows).set i [.row (σ w7 0).1 (σ w7 0).2 z 0 es.length]⟩))),_,_,_,λ C => ?_,h5,rfl,hr.zu hm (Or.inr ⟨v0,rfl⟩) bh (GO.1 gy) bg kf hi⟩;simp only[e9,hr.ev e (by intro e;cases e),E4,hr.ev rfl h0,QW hc,List.length_map];rw[if_pos nx];simp only[AJ.jm,AJ.get,hs,w6,A8.e8,List.getElem?_set_self (show i<(B7 σ key 0 rows).length by rw[F6];exact hi),List.map_cons,List.map_nil,List.length_cons,List.length_nil,A7];rw[if_pos (by omega)];simp only[Option.map_some,List.set_set];rfl
      ·exact h5.elim
     ·exact h5.elim
    ·rename_i w rows
     split at h5
     ·rename_i w7 t2 z m
      cases gy:Nat.beq key w7<;>simp only[gy,cond_true,cond_false]at h5;cases hj:Nat.beq j 0<;>simp only[hj,cond_true,cond_false]at h5;obtain rfl:=BJ.1 hj;obtain rfl:=BJ.1 gy;obtain ⟨z',es,g0,h5⟩:=h5;cases hz:Nat.beq z z'<;>simp only[hz,cond_true,cond_false]at h5;obtain rfl:=BJ.1 hz;obtain ⟨⟨rfl,hi,hwr⟩,h5⟩:=h5;have u5:A8.e8 σ key (.vw (w.set i t2) rows)=⟨1,(w.map λ t=>((B7 σ key 0 rows)[t]?).getD []).set i [.row (σ key (t2+1)).1 (σ key (t2+1)).2 z 0 es.length]⟩:=by
       simp only[A8.e8];congr 1;apply List.ext_getElem?;intro p;rw[List.getElem?_map];by_cases hp:i=p
       ·subst hp
        rw[List.getElem?_set_self hi,List.getElem?_set_self (by rw[List.length_map];exact hi),Option.map_some,GR,g0];simp
       ·rw[List.getElem?_set_ne hp,List.getElem?_set_ne hp,List.getElem?_map]
      have hv:=hr.view (w:=w.set i t2) hm (Or.inr ⟨w,rfl⟩);have hlen:(w.map λ t=>((B7 σ key 0 rows)[t]?).getD [])[i]? = some ((w.map λ t=>((B7 σ key 0 rows)[t]?).getD [])[i]'(by rw[List.length_map];exact hi)):=zE _;have jf:((w.map λ t=>((B7 σ key 0 rows)[t]?).getD [])[i]'(by rw[List.length_map];exact hi)).length=1:=by
       rw[List.getElem_map];have j9:=hwr w[i] (List.getElem_mem hi);rw[GR,zE j9];simp only[Option.map_some,Option.getD_some];split<;>rfl
      refine ⟨.bn (.g8 []) (st.own.put s ((st.own s).o7 (σ key 0).2 (some (A8.e8 σ key (.vw (w.set i t2) rows))))),_,_,_,λ C => ?_,h5,rfl,hv⟩;rw[u5];simp only[e9,hr.ev e (by intro e;cases e),E4,hr.ev rfl h0,QW hc,List.length_map];rw[if_pos nx];simp only[AJ.jm,AJ.get,hs,w6,A8.e8,hlen,List.map_cons,List.map_nil,List.length_cons,List.length_nil,A7];rw[if_pos (by omega)];simp only[Option.map_some];have Ee:splice ((w.map λ t=>((B7 σ key 0 rows)[t]?).getD [])[i]'(by rw[List.length_map];exact hi)) 0 [.row (σ key (t2+1)).1 (σ key (t2+1)).2 z 0 es.length]=[.row (σ key (t2+1)).1 (σ key (t2+1)).2 z 0 es.length]:=by
       simp only[splice,List.take_zero,List.nil_append,List.length_cons,List.length_nil,Nat.zero_add];rw[List.drop_of_length_le (by omega)];rfl
      rw[Ee]
     ·exact h5.elim
   ·rename_i i'
    split at h5
    ·rename_i rows
     cases hd:EW vs<;>simp only[hd,cond_true,cond_false]at h5;obtain ⟨z,es,g0,cs,g1,g2,g3,h5⟩:=h5;have w6:=hr.sat.e8 key (i'+1) (.rw z es) (by simp [c5,hm,g0]);refine ⟨.bn (.g8 []) (st.own.put (σ key (i'+1)).1 ((st.own (σ key (i'+1)).1).o7 (σ key (i'+1)).2 (some ⟨z,es.set i (splice cs j vs)⟩))),σ,_,_,λ C => ?_,h5,rfl,hr.Lz hm g0 g3⟩;simp only[e9,hr.ev e (by intro e;cases e),E4,hr.ev rfl h0,QW hc,KD hd];rw[if_pos nx];simp only[AJ.jm,AJ.get,w6,A8.e8,g1];rw[if_pos g2];rfl
    ·exact h5.elim
  ·exact h5.elim
 ·exact h.elim
theorem Adw {s z bytes:Nat} {zero:List AV} {a c:AU} (hr:RX σ tm M st) (h:XE L tm M c4 K (.mk s z bytes zero a c)):BZ L tm c4 K (.mk s z bytes zero a c) st:=by
 simp only[XE]at h;split at h
 ·rename_i k1 p k2 q e1 e2
  cases hz:Nat.beq zero.length z<;>simp only[hz,cond_true,cond_false]at h;cases hd:EW zero<;>simp only[hd,cond_true,cond_false]at h;split at h
  ·cases fj:F5 s<;>simp only[fj,cond_true,cond_false]at h
   obtain ⟨⟨g1,g2,g3,g4⟩,h⟩:=h;obtain ⟨k,h1,h2,h3⟩:=I2 h;have fq:A8.flat (.mx (List.replicate p.toNat none)):=by
    intro i x hx;have:=List.getElem?_replicate (n:=p.toNat) (a:=(none:Option (Nat × List (List AV)))) (i:=i)
    rw[this]at hx;split at hx<;>cases hx
   have ic:z=1:=(BJ.1 hz).symm;have jq:A8.e8 σ k (.mx (List.replicate p.toNat none))=⟨z,List.replicate p.toNat [.nil]⟩:=by
    simp only[A8.e8,ic];congr 1;have : ∀ (n i:Nat),B7 σ k i (List.replicate n none)=List.replicate n [AV.nil]:=by
     intro n;induction n with
     | zero=>intro i;rfl
     | succ n ih=>intro i;rw[List.replicate_succ,List.replicate_succ,B7,ih]
    exact this _ _
   refine ⟨.new s (A8.e8 σ k (.mx (List.replicate p.toNat none))) (λ t => .row s t z 0 p.toNat),_,_,_,λ C => ?_,h3,?_,hr.eg h1 h2 (.mx _) fq rfl (λ_=>fj)⟩
   ·simp only[e9,hr.ev e1 (by intro e;cases e),hr.ev e2 (by intro e;cases e),IY,jq]
    rw[if_pos ⟨g1,g2,g3,g4,BJ.1 hz⟩]
   ·simp only[CI.res,DL,B1]
  ·cases fj:F5 s<;>simp only[fj,cond_true,cond_false]at h
   obtain ⟨⟨g1,g2,g3,g4⟩,h⟩:=h;obtain ⟨k,h1,h2,h3⟩:=I2 h;refine ⟨.new s ⟨z,List.replicate p.toNat zero⟩ (λ t => .row s t z 0 p.toNat),_,_,_,λ C => ?_,h3,?_,hr.eg h1 h2 (.rw z _) trivial rfl (λ_=>fj)⟩
   ·simp only[e9,hr.ev e1 (by intro e;cases e),hr.ev e2 (by intro e;cases e),IY]
    rw[if_pos ⟨g1,g2,g3,g4,BJ.1 hz⟩]
   ·simp only[CI.res,DL,B1]
 ·exact h.elim
theorem vX {v:AV} {K:AV->Prop} (h:f2 v K):v ≠ .any/\BC σ v=BM σ v/\K v:=by
 cases v<;>simp only[f2,IP]at h<;>first|exact h.elim|exact ⟨(by intro e;cases e),rfl,h⟩
theorem yC : ∀ (vs:List AV) (i:Nat),vi vs i ≠ .any->vs[i]? = some (vi vs i)
 | [],_,h=>absurd rfl h
 | _::_,0,_=>rfl
 | _::r,i+1,h=>yC r i h
theorem Ado {x:AU} {i:Nat} (hr:RX σ tm M st) (h:XE L tm M c4 K (.ext x i)):BZ L tm c4 K (.ext x i) st:=by
 simp only[XE]at h;split at h
 ·rename_i vs e
  obtain ⟨h1,h2,h3⟩:=vX (σ:=σ) h;refine BZ.val hr _ (λ C => ?_) h3;simp only[e9,hr.ev e (by intro e;cases e),J3,List.getElem?_map,yC vs i h1,Option.map_some,h2]
 ·exact h.elim
theorem Adv {x:AU} (hr:RX σ tm M st) (h:XE L tm M c4 K (.len x)):BZ L tm c4 K (.len x) st:=by
 simp only[XE]at h;split at h
 ·rename_i q es e
  exact BZ.val hr _ (λ C=>by simp only[e9,hr.ev e (by intro e;cases e),JC,SE];rfl) h.h
 ·rename_i e
  exact BZ.val hr _ (λ C=>by simp only[e9,hr.ev e (by intro e;cases e),G1,SE];rfl) h
 ·rename_i e
  exact BZ.val hr _ (λ C=>by simp only[e9,hr.ev e (by intro e;cases e),DL,SE];rfl) h
 ·exact h.elim
theorem zG {mx:Bool} {k:IntKind} {K:AV->Prop} : ∀ {l:List AV} {a:Int},U2 mx k K a l -> ∃ n,LP mx (.int k a) l=some (.int k n)/\K (.int k n)/\(∀ v∈l,v ≠ .any/\BC σ v=v)
 | [],a,h=>⟨a,rfl,h,λ v hv=>by cases hv⟩
 | v::r,a,h=>by
  cases v with
  | int k' b =>
   have h:(bif mx then AF (a<b) (b<=a) (U2 mx k K b r) (U2 mx k K a r) else AF (b<a) (a<=b) (U2 mx k K b r) (U2 mx k K a r)):=h;have fin : ∀ c:Int,SG mx (.int k a) (.int k' b)=some (.int k c)->U2 mx k K c r -> ∃ n,LP mx (.int k a) (.int k' b::r)=some (.int k n)/\K (.int k n)/\(∀ v∈AV.int k' b::r,v ≠ .any/\BC σ v=v):=by
    intro c hc hx;obtain ⟨n,h1,h2,h3⟩:=zG hx;refine ⟨n,by simp only[LP,hc,h1],h2,λ v hv => ?_⟩;rcases List.mem_cons.1 hv with rfl|hv
    ·exact ⟨(by intro e;cases e),rfl⟩
    ·exact h3 v hv
   cases mx
   ·simp only[cond_false]at h
    by_cases hc:b<a
    ·exact fin b (by simp [SG,hc]) (h.1 hc)
    ·exact fin a (by simp [SG,hc]) (h.2 (by omega))
   ·simp only[cond_true]at h
    by_cases hc:a<b
    ·exact fin b (by simp [SG,hc]) (h.1 hc)
    ·exact fin a (by simp [SG,hc]) (h.2 (by omega))
  | _=>exact (h:False).elim
theorem Ady {mx:Bool} {xs:List AU} (hr:RX σ tm M st) (h:XE L tm M c4 K (.mm mx xs)):BZ L tm c4 K (.mm mx xs) st:=by
 simp only[XE]at h;split at h
 ·rename_i k a r e
  obtain ⟨n,h1,h2,h3⟩:=zG (σ:=σ) h;refine BZ.val hr (.int k n) (λ C => ?_) h2;have hx : ∀ v∈TE tm xs,v ≠ .any:=by
   rw[e];intro v hv;rcases List.mem_cons.1 hv with rfl|hv
   ·intro e;cases e
   ·exact (h3 v hv).1
  have hm:(TE tm xs).map (BC σ) = .int k a::r:=by
   rw[e,List.map_cons];congr 1;conv=>rhs;rw[<-List.map_id r]
   exact List.map_congr_left λ v hv=>(h3 v hv).2
  simp only[e9];rw[show xs.map st.ev = .int k a::r from (evL hr hx).trans hm];simp only[h1,Option.map_some,IY]
 ·exact h.elim
theorem Aks (hr:RX σ tm M st) {k t:Nat} {K:Nat->List (List AV)->Prop} (h:nC M k t K) : ∃ z es,(st.own (σ k t).1).e8 (σ k t).2=some ⟨z,es⟩/\K z es:=by
 unfold nC at h;split at h
 ·rename_i s c hm
  split at h
  ·split at h
   ·exact ⟨_,_,hr.sat.e8 _ _ _ (EU hm),h⟩
   ·exact h.elim
  ·rename_i i
   split at h
   ·rename_i rows
    obtain ⟨z,es,g,h⟩:=h;exact ⟨z,es,hr.sat.e8 k (i+1) (.rw z es) (by simp [c5,hm,g]),h⟩
   ·exact h.elim
 ·exact h.elim
theorem Ak3 {own l8:AJ} {s t i j:Nat} {vs:List AV} (h:own.jm s t i j vs=some l8):own.put s (l8 s)=l8:=by
 unfold AJ.jm at h;cases hg:own.get s t with
 | none=>simp [hg]at h
 | some b =>
  simp only[hg]at h;cases he:b.es[i]? with
  | none=>simp [he]at h
  | some cs =>
   simp only[he]at h;split at h
   ·obtain rfl:=Option.some.inj h
    rw[AJ.j6]
   ·cases h
theorem Yu {s n:Nat} {x v:AU} (hr:RX σ tm M st) (h:XE L tm M c4 K (.mi s n x v)):BZ L tm c4 K (.mi s n x v) st:=by
 simp only[XE]at h;split at h
 ·rename_i key i j e1
  split at h
  ·rename_i s' c hm
   cases hb:Nat.beq s' s<;>simp only[hb,cond_true,cond_false]at h;obtain rfl:=BJ.1 hb;have dc:=hr.sat.site _ _ _ hm;obtain ⟨E,σ',v',M',h1,h2,h3,h4⟩:=pW (c4:=c4) (L:=L) hr (show XE L tm M c4 K (.st n x v) from h);have al:=hr.ev e1 (by intro e;cases e);rw[E4,dc]at al;have key : ∀ vs,cellsOf (st.ev v)=some vs->vs.length=n -> ∃ o',st.own.jm s' (σ key 0).2 i j vs=some o'/\E = .bn (.g8 []) o':=λ vs de hn=>by
    have:=h1 0
    simp only[e9,al,de]at this;rw[if_pos hn,Option.map_eq_some_iff]at this;obtain ⟨o',a1,a2⟩:=this;exact ⟨o',a1,a2.symm⟩
   cases de:cellsOf (st.ev v) with
   | none=>have:=h1 0;simp [e9,al,de]at this
   | some vs =>
    by_cases hn:vs.length=n
    ·obtain ⟨o',a1,rfl⟩:=key vs de hn
     refine ⟨.o7 s' (o' s'),σ',v',M',λ C => ?_,h2,h3,?_⟩
     ·simp only[e9,al,de]
      rw[if_pos ⟨trivial,hn⟩,a1];rfl
     ·have e2:(CI.res st.own (.o7 s' (o' s'))).2=o':=Ak3 a1
      rw[e2];exact h4
    ·have:=h1 0
     simp only[e9,al,de]at this;rw[if_neg hn]at this;cases this
  ·exact h.elim
 ·exact h.elim
theorem Adt {ne:Bool} {x:AU} (hr:RX σ tm M st) (h:XE L tm M c4 K (.oy ne x)):BZ L tm c4 K (.oy ne x) st:=by
 simp only[XE]at h;split at h
 ·rename_i e1
  rw[TF]at h;exact BZ.val hr _ (λ C=>by simp only[e9,hr.ev e1 (by intro e;cases e),G1,IH]) h
 ·rename_i b e1
  rw[TF]at h;exact BZ.val hr _ (λ C=>by simp only[e9,hr.ev e1 (by intro e;cases e),Akt,IH]) h
 ·rename_i q es e1
  obtain ⟨h0,h⟩:=h;rw[TF]at h;cases es with
  | nil=>exact absurd rfl h0
  | cons e es=>exact BZ.val hr _ (λ C=>by simp only[e9,hr.ev e1 (by intro e;cases e),JC,IH]) h
 ·rename_i s t z o n e1
  obtain ⟨h0,h⟩:=h;rw[TF]at h;cases n with
  | zero=>exact absurd h0 (by omega)
  | succ n=>exact BZ.val hr _ (λ C=>by simp only[e9,hr.ev e1 (by intro e;cases e),DL,IH]) h
 ·exact h.elim
theorem Ys {tb:List Nat} {x:AU} (hr:RX σ tm M st) (h:XE L tm M c4 K (.eo tb x)):BZ L tm c4 K (.eo tb x) st:=by
 simp only[XE]at h;split at h
 ·rename_i k n e1
  obtain ⟨h0,v,h1,h2⟩:=h;exact BZ.val hr _ (λ C=>by simp only[e9,hr.ev e1 (by intro e;cases e),IY,h1];rw[if_pos h0]) h2
 ·exact h.elim
theorem Ahr {v:AV} {K:AV->Prop} (h:fF v K):v ≠ .any/\HZ (BC σ v)=some (A7 σ v)/\K v:=by
 cases v<;>first|exact (h:False).elim|exact ⟨(by intro e;cases e),rfl,h⟩
theorem zP (hr:RX σ tm M st) : ∀ {l:List AU} {K:List AV->Prop},mG tm l K -> ∃ cs,l.mapM (λ x=>HZ (st.ev x))=some (cs.map (A7 σ))/\K cs
 | [],K,h=>⟨[],rfl,h⟩
 | x::r,K,h=>by
  obtain ⟨h0,hc,h⟩:=Ahr (σ:=σ) (show fF (ex tm x) λ v=>mG tm r λ cs=>K (v::cs) from h);obtain ⟨cs,h1,h2⟩:=zP hr h;refine ⟨ex tm x::cs,?_,h2⟩;rw[List.mapM_cons,h1,hr.ev rfl h0,hc];rfl
theorem Adx {p:Bool} {f:Nat} {xs:List AU} (hr:RX σ tm M st) (h:XE L tm M c4 K (.mf p f xs)):BZ L tm c4 K (.mf p f xs) st:=by
 simp only[XE]at h;obtain ⟨cs,h1,h2⟩:=zP hr h;exact BZ.val hr _ (λ C=>by simp only[e9,h1,Option.map_some,eL,List.isEmpty_map];rfl) h2
theorem Af4 (hr:RX σ tm M st) {v:AV} {K:List (List AV)->Prop} (h:cE M v K):v ≠ .any /\ ∃ es,FD st.own (BC σ v)=some es/\K es:=by
 cases v with
 | sl q es=>exact ⟨(by intro e;cases e),_,rfl,h⟩
 | nil=>exact ⟨(by intro e;cases e),_,rfl,h⟩
 | aj v =>
  cases v with
  | bool b=>exact ⟨(by intro e;cases e),_,rfl,h⟩
  | _=>exact (h:False).elim
 | row key t z off len =>
  simp only[cE]at h;obtain ⟨z',es,g,h⟩:=Aks hr h;cases hz:Nat.beq z z'<;>simp only[hz,cond_true,cond_false]at h;obtain rfl:=BJ.1 hz;refine ⟨(by intro e;cases e),_,?_,h.2⟩;simp only[DL,FD,AJ.get,g];rw[if_pos ⟨h.1,trivial⟩]
 | _=>exact (h:False).elim
theorem mH (hr:RX σ tm M st) {o:Option AU} {K:Option Int->Prop} (h:dK tm o K):(o=none/\K none) \/ ∃ x k n,o=some x/\st.ev x = .int k n/\K (some n):=by
 unfold dK at h;split at h
 ·exact Or.inl ⟨rfl,h⟩
 ·split at h
  ·rename_i e
   exact Or.inr ⟨_,_,_,rfl,hr.ev e (by intro e;cases e),h⟩
  ·exact h.elim
theorem Yt {z:Nat} {x:AU} {lo hi:Option AU} (hr:RX σ tm M st) (h:XE L tm M c4 K (.cj z x lo hi)):BZ L tm c4 K (.cj z x lo hi) st:=by
 simp only[XE]at h;have go : ∀ (a b:Option Int),(match ex tm x with
   | .sl l es=>CJ z es a b λ es=>K (.sl l es) M
   | .row key t z' off len=>bif Nat.beq z' z then B0 a b len λ a h=>K (.row key t z (off+a) (h-a)) M else False
   | .nil=>(match a,b with
    | none,none=>K .nil M
    | some a,none=>AX (a=0) (K .nil M)
    | none,some h=>AX (h=0) (K .nil M)
    | some a,some h=>AX (a=0/\h=0) (K .nil M))
   | _=>False)->(lo=none/\a=none \/ ∃ y k n,lo=some y/\st.ev y = .int k n/\a=some n)->(hi=none/\b=none \/ ∃ y k n,hi=some y/\st.ev y = .int k n/\b=some n)->BZ L tm c4 K (.cj z x lo hi) st:=by
  intro a b h ha hb;split at h
  ·rename_i q es e
   obtain ⟨g1,a',h',g2,g3,g4,h⟩:=h;refine BZ.val hr _ (λ C => ?_) h;rcases ha with ⟨rfl,rfl⟩|⟨y,k,n,rfl,e1,rfl⟩<;>rcases hb with ⟨rfl,rfl⟩|⟨y',k',n',rfl,e2,rfl⟩<;>try simp only at g2 g3<;>simp only[e9,hr.ev e (by intro e;cases e),JC, *]<;>simp_all
  ·rename_i key t z' off len e
   cases hz:Nat.beq z' z<;>simp only[hz,cond_true,cond_false]at h;obtain rfl:=BJ.1 hz;obtain ⟨a',h',g2,g3,g4,h⟩:=h;refine BZ.val hr _ (λ C => ?_) h;rcases ha with ⟨rfl,rfl⟩|⟨y,k,n,rfl,e1,rfl⟩<;>rcases hb with ⟨rfl,rfl⟩|⟨y',k',n',rfl,e2,rfl⟩<;>try simp only at g2 g3<;>simp only[e9,hr.ev e (by intro e;cases e),DL, *]<;>simp_all
  ·rename_i e
   rcases ha with ⟨rfl,rfl⟩|⟨y,k,n,rfl,e1,rfl⟩<;>rcases hb with ⟨rfl,rfl⟩|⟨y',k',n',rfl,e2,rfl⟩<;>simp only at h
   ·exact BZ.val hr .nil (λ C=>by simp only[e9,hr.ev e (by intro e;cases e),G1]) h
   ·exact BZ.val hr .nil (λ C=>by simp only[e9,hr.ev e (by intro e;cases e),G1,e2,h.1,if_true]) h.2
   ·exact BZ.val hr .nil (λ C=>by simp only[e9,hr.ev e (by intro e;cases e),G1,e1,h.1,if_true]) h.2
   ·exact BZ.val hr .nil (λ C=>by simp only[e9,hr.ev e (by intro e;cases e),G1,e1,e2,h.1.1,h.1.2,if_true]) h.2
  ·exact h.elim
 rcases mH hr h with ⟨h1,h⟩|⟨y,k,n,h1,h2,h⟩
 ·rcases mH hr h with ⟨g1,h⟩|⟨y,k,n,g1,g2,h⟩
  ·exact go _ _ h (Or.inl ⟨h1,rfl⟩) (Or.inl ⟨g1,rfl⟩)
  ·exact go _ _ h (Or.inl ⟨h1,rfl⟩) (Or.inr ⟨_,_,_,g1,g2,rfl⟩)
 ·rcases mH hr h with ⟨g1,h⟩|⟨y',k',n',g1,g2,h⟩
  ·exact go _ _ h (Or.inr ⟨_,_,_,h1,h2,rfl⟩) (Or.inl ⟨g1,rfl⟩)
  ·exact go _ _ h (Or.inr ⟨_,_,_,h1,h2,rfl⟩) (Or.inr ⟨_,_,_,g1,g2,rfl⟩)
theorem dZ {s key:Nat} : ∀ {M:Mem},H2 s M=false->H2 s (o4 key M)=false
 | [],_=>rfl
 | (i,s0,c0)::r,h=>by
  simp only[H2]at h;cases q0:Nat.beq s i<;>simp only[q0,cond_true,cond_false]at h
  ·cases q1:IG s c0<;>simp only[q1,cond_true,cond_false]at h
   ·simp only[o4]
    cases Nat.beq key i
    ·simp only[cond_false,H2,q0,q1,dZ h]
    ·simp only[cond_true,dZ h]
   ·cases h
  ·cases h
theorem Zw {s z bytes:Nat} {x y:AU} (hr:RX σ tm M st) (h:cE M (ex tm y) λ ys=>match ex tm x with
   | .row key 0 z' off len=>bif Nat.beq off 0 then bif Nat.beq z' z then (match c9 M key with
    | some (s',.rw fg es)=>bif Nat.beq fg z then fM (o4 key M) λ M'=>(BH es len ys z bytes λ es' n=>HI s tm M λ k=>K (.row k 0 z 0 n) ((k,s',.rw z es')::M')) else False
    | _=>False) else False else False
   | .row key (i+1) z' off len=>bif Nat.beq off 0 then bif Nat.beq z' z then (match c9 M key with
    | some (sk,.mx rows)=>fM (o4 key M) λ M'=>CE rows i λ fg es=>bif Nat.beq fg z then (BH es len ys z bytes λ es' n => ∀ s' v,HI s tm M λ k=>K (.row k 0 z 0 n) ((k,s',.rw z es')::(key,sk,.hx i v (rows.set i none))::M')) else False
    | _=>False) else False else False
   | .nil=>bif F5 s then CM ys z bytes λ es n=>HI s tm M λ k=>K (.row k 0 z 0 n) ((k,s,.rw z es)::M) else False
   | _=>False):BZ L tm c4 K (.app s z bytes x y) st:=by
 obtain ⟨h0,ys,hy,h⟩:=Af4 hr h;have xd:FD st.own (st.ev y)=some ys:=by rw[hr.ev rfl h0];exact hy
 split at h
 ·rename_i key z' off len e
  cases ho:Nat.beq off 0<;>simp only[ho,cond_true,cond_false]at h;cases hz:Nat.beq z' z<;>simp only[hz,cond_true,cond_false]at h;obtain rfl:=BJ.1 ho;obtain rfl:=BJ.1 hz;split at h
  ·rename_i s' fg es hm
   cases ox:Nat.beq fg z'<;>simp only[ox,cond_true,cond_false]at h;obtain rfl:=BJ.1 ox;rw[Q8]at h;obtain ⟨g1,g2,g3,g4,h⟩:=h;obtain ⟨k,h1,h2,h3⟩:=I2 h;have hs:=hr.sat.site _ _ _ hm;have w6:=hr.sat.e8 _ _ _ (EU hm);have hn:=(hr.kill hm).eg (s:=k) (q:=s') (dZ h1) h2 (.rw fg (es.take len++ys)) trivial rfl (λ_=>by have:=hr.sat.low _ _ _ (EU hm) rfl;rwa [hs]at this);have xp:(st.own.put s' ((st.own s').o7 (σ key 0).2 none)).g9 s'=st.own.g9 s':=by simp [AJ.g9,AJ.j6,CF.o7]
   simp only[AJ.j6,AJ.jl,xp]at hn;refine ⟨.bn (.row s' (st.own.g9 s') fg 0 (len+ys.length)) (st.own.put s' (((st.own s').o7 (σ key 0).2 none).new ⟨fg,es.take len++ys⟩)),_,_,_,λ C => ?_,h3,?_,hn⟩
   ·rw[hs]at w6
    simp only[e9,xd,hr.ev e (by intro e;cases e),DL,AJ.get,hs,w6,A8.e8];rw[if_pos g2,if_pos ⟨trivial,trivial,g1,g3,g4⟩]
   ·simp only[CI.res,DL,B1]
  ·exact h.elim
 ·rename_i key i z' off len e
  cases ho:Nat.beq off 0<;>simp only[ho,cond_true,cond_false]at h;cases hz:Nat.beq z' z<;>simp only[hz,cond_true,cond_false]at h;obtain rfl:=BJ.1 ho;obtain rfl:=BJ.1 hz;split at h
  ·rename_i sk rows hm
   rw[Q8]at h;obtain ⟨fg,es,g0,h⟩:=h;cases ox:Nat.beq fg z'<;>simp only[ox,cond_true,cond_false]at h;obtain rfl:=BJ.1 ox;obtain ⟨g1,g2,g3,g4,h⟩:=h;have h:=h (σ key (i+1)).1 (.row (σ key (i+1)).1 (σ key (i+1)).2 fg 0 es.length);obtain ⟨k,h1,h2,h3⟩:=I2 h;have w6:=hr.sat.e8 key (i+1) (.rw fg es) (by simp [c5,hm,g0]);have hn:=hr.Hg (s:=k) (es':=es.take len++ys) hm g0 h1 h2;refine ⟨.bn (.row (σ key (i+1)).1 (st.own.g9 (σ key (i+1)).1) fg 0 (len+ys.length)) (st.own.put (σ key (i+1)).1 (((st.own (σ key (i+1)).1).o7 (σ key (i+1)).2 none).new ⟨fg,es.take len++ys⟩)),_,_,_,λ C => ?_,h3,?_,hn⟩
   ·simp only[e9,xd,hr.ev e (by intro e;cases e),DL,AJ.get,w6,A8.e8]
    rw[if_pos g2,if_pos ⟨trivial,trivial,g1,g3,g4⟩]
   ·simp only[CI.res,DL,B1]
  ·exact h.elim
 ·rename_i e
  cases fj:F5 s<;>simp only[fj,cond_true,cond_false]at h;obtain ⟨g2,g3,g4,h⟩:=h;obtain ⟨k,h1,h2,h3⟩:=I2 h;refine ⟨.bn (.row s (st.own.g9 s) z 0 ys.length) (st.own.put s ((st.own s).new ⟨z,ys⟩)),_,_,_,λ C => ?_,h3,?_,hr.eg h1 h2 (.rw z ys) trivial rfl (λ_=>fj)⟩
  ·simp only[e9,xd,hr.ev e (by intro e;cases e),G1]
   rw[if_pos g2,if_pos ⟨g3,g4⟩]
  ·simp only[CI.res,DL,B1]
 ·exact h.elim
theorem Ze {v:AV} {ky k2 z n:Nat} (h:UD M v=some (ky,some (k2,z,n))):v = .row ky 0 1 0 1 /\ ∃ sy,c9 M ky=some (sy,.bs 1 [[.row k2 0 z 0 n]]):=by
 unfold UD at h;split at h
 ·split at h
  ·rename_i hm
   simp only[Option.some.injEq,Prod.mk.injEq]at h;obtain ⟨rfl,rfl,rfl,rfl⟩:=h;exact ⟨rfl,_,hm⟩
  ·simp at h
  ·cases h
 ·cases h
theorem Zd {v:AV} {ky:Nat} (h:UD M v=some (ky,none)):v = .row ky 0 1 0 1 /\ ∃ sy,c9 M ky=some (sy,.rw 1 [[.nil]]):=by
 unfold UD at h;split at h
 ·split at h
  ·simp at h
  ·rename_i hm
   simp only[Option.some.injEq,Prod.mk.injEq,and_true]at h;subst h;exact ⟨rfl,_,hm⟩
  ·cases h
 ·cases h
theorem xZ {z:Nat} : ∀ {es:List (List AV)},Y6 z es=true -> ∀ e∈es,e.length=z
 | [],_,e,he=>by cases he
 | a::r,h,e,he=>by
  simp only[Y6]at h;cases h1:Nat.beq a.length z<;>simp only[h1,cond_true,cond_false]at h
  ·cases h
  ·rcases List.mem_cons.1 he with rfl|he
   ·exact BJ.1 h1
   ·exact xZ h e he
theorem On {k:Nat} {b:List (List AV)} (r2:KJ k b=false) : ∀ {a:List (List AV)},KJ k a=false->KJ k (a++b)=false
 | [],_=>r2
 | c::a,h=>by
  simp only[KJ,List.cons_append]at h ⊢;cases hq:JA k c<;>simp only[hq,cond_true,cond_false]at h ⊢
  ·exact On r2 h
  ·cases h
theorem Zx {s z bytes:Nat} {x y:AU} (hr:RX σ tm M st) (h:iA tm M s z bytes x y K):BZ L tm c4 K (.app s z bytes x y) st:=by
 unfold iA at h;split at h
 ·rename_i ky zy ny ey
  split at h
  ·rename_i sy z2 ij nw
   cases a1:Nat.beq zy z<;>simp only[a1,cond_true,cond_false]at h;cases a2:Nat.beq z2 z<;>simp only[a2,cond_true,cond_false]at h;cases a3:Nat.beq ny ij.length<;>simp only[a3,cond_true,cond_false]at h;cases a4:Y6 z ij<;>simp only[a4,cond_true,cond_false]at h;have b1:=BJ.1 a1;have b2:=BJ.1 a2;have b3:=BJ.1 a3;subst b1 b2 b3;have ib:=hr.sat.site _ _ _ nw;have nn:=hr.sat.e8 _ _ _ (EU nw);rw[ib]at nn
   have xe:FD st.own (st.ev y)=some (ij.map λ cs=>cs.map (A7 σ)):=by
    rw[hr.ev ey (by intro e;cases e)];simp only[DL,FD,AJ.get,ib,nn,A8.e8];rw[if_pos (by simp),List.drop_zero,zT (by simp)]
   have bp : ∀ e∈ij.map (λ cs=>cs.map (A7 σ)),e.length=z2:=λ e he=>by
    obtain ⟨c,hc,rfl⟩:=List.mem_map.1 he;rw[List.length_map];exact xZ a4 c hc
   split at h
   ·rename_i e
    cases fj:F5 s<;>simp only[fj,cond_true,cond_false]at h;obtain ⟨⟨g3,g4⟩,h⟩:=lQ h;obtain ⟨k,h1,h2,h3⟩:=I2 h;have Aw:IG k (.bs z2 ij)=false:=(RF h1 _ _ _ nw).2;refine ⟨.bn (.row s (st.own.g9 s) z2 0 ij.length) (st.own.put s ((st.own s).new ⟨z2,ij.map λ cs=>cs.map (A7 σ)⟩)),_,_,_,λ C => ?_,h3,?_,hr.eg h1 h2 (.bs z2 ij) trivial Aw (λ_=>fj)⟩
    ·simp only[e9,xe,hr.ev e (by intro e;cases e),G1]
     rw[if_pos bp,if_pos ⟨by simpa [FI] using g3,by simpa using g4⟩,List.length_map]
    ·simp only[CI.res,DL,B1]
   ·rename_i kx zx len e
    cases c1:Nat.beq zx z2<;>simp only[c1,cond_true,cond_false]at h;split at h
    ·rename_i s' z1 sz hm
     cases c2:Nat.beq z1 z2<;>simp only[c2,cond_true,cond_false]at h;cases c3:Nat.beq len sz.length<;>simp only[c3,cond_true,cond_false]at h;have d1:=BJ.1 c1;have d2:=BJ.1 c2;have d3:=BJ.1 c3;subst d1 d3;rw[Q8]at h;obtain ⟨⟨g3,g4⟩,h⟩:=lQ h;obtain ⟨k,h1,h2,h3⟩:=I2 h;have hs:=hr.sat.site _ _ _ hm;have w6:=hr.sat.e8 _ _ _ (EU hm);have r1:KJ k sz=false:=(RF h1 _ _ _ hm).2;have r2:KJ k ij=false:=(RF h1 _ _ _ nw).2;have Aw:IG k (.bs zx (sz++ij))=false:=by
      exact On r2 r1
     have hn:=(hr.kill hm).eg (s:=k) (q:=s') (dZ h1) h2 (.bs zx (sz++ij)) trivial Aw (λ_=>by have:=hr.sat.low _ _ _ (EU hm) rfl;rwa [hs]at this);have xp:(st.own.put s' ((st.own s').o7 (σ kx 0).2 none)).g9 s'=st.own.g9 s':=by simp [AJ.g9,AJ.j6,CF.o7]
     simp only[AJ.j6,AJ.jl,xp,A8.e8,List.map_append]at hn;rw[hs]at w6;refine ⟨.bn (.row s' (st.own.g9 s') zx 0 (sz.length+ij.length)) (st.own.put s' (((st.own s').o7 (σ kx 0).2 none).new ⟨zx,sz.map (λ cs=>cs.map (A7 σ))++ij.map λ cs=>cs.map (A7 σ)⟩)),_,_,_,λ C => ?_,h3,?_,hn⟩
     ·simp only[e9,xe,hr.ev e (by intro e;cases e),DL,AJ.get,hs,w6,A8.e8]
      rw[if_pos bp,if_pos ⟨d2,trivial,by simp,by simpa [FI] using g3,by simpa using g4⟩,zT (by simp),List.length_map]
     ·simp only[CI.res,DL,B1,List.length_append]
    ·exact h.elim
   ·exact h.elim
  ·exact h.elim
 ·exact h.elim
theorem Zv {s z bytes:Nat} {x y:AU} (hr:RX σ tm M st) (h:XE L tm M c4 K (.app s z bytes x y)):BZ L tm c4 K (.app s z bytes x y) st:=by
 simp only[XE]at h;cases hV:Nat.ble 800000 s<;>simp only[hV,cond_true,cond_false]at h;rotate_left
 ·exact Zx hr h
 split at h
 ·rename_i ky k2 z2 n2 Je
  obtain ⟨nb,sy,nw⟩:=Ze Je;have ib:=hr.sat.site _ _ _ nw;have nn:=hr.sat.e8 _ _ _ (EU nw);rw[ib]at nn
  have xe:FD st.own (st.ev y)=some [[.row (σ k2 0).1 (σ k2 0).2 z2 0 n2]]:=by
   rw[hr.ev nb (by intro e;cases e)];simp only[DL,FD,AJ.get,ib,nn,A8.e8,A7,List.map_cons,List.map_nil,List.length_cons,List.length_nil];simp
  split at h
  ·rename_i key z' off len e
   cases ho:Nat.beq off 0<;>simp only[ho,cond_true,cond_false]at h;cases hz:Nat.beq z' 1<;>simp only[hz,cond_true,cond_false]at h;cases ic:Nat.beq z 1<;>simp only[ic,cond_true,cond_false]at h;cases iv:Nat.beq key k2<;>simp only[iv,cond_true,cond_false]at h;cases Ke:Nat.beq key ky<;>simp only[Ke,cond_true,cond_false]at h;cases hk3:Nat.beq k2 ky<;>simp only[hk3,cond_true,cond_false]at h;obtain rfl:=BJ.1 ho;obtain rfl:=BJ.1 hz;obtain rfl:=BJ.1 ic;split at h
   ·rename_i s2 z3 es bh
    cases Ep:Nat.beq z2 z3<;>simp only[Ep,cond_true,cond_false]at h;obtain rfl:=BJ.1 Ep;split at h
    ·rename_i s' rows hm
     rw[Q8]at h;obtain ⟨rfl,rfl,g3,g4,h⟩:=h;obtain ⟨k,h1,h2,h3⟩:=I2 h;have hs:=hr.sat.site _ _ _ hm;have w6:=hr.sat.e8 _ _ _ (EU hm);rw[hs]at w6;refine ⟨.bn (.row s' (st.own.g9 s') 1 0 (rows.length+1)) (st.own.put s' (((st.own s').o7 (σ key 0).2 none).new ⟨1,B7 σ key 0 rows++[[.row (σ k2 0).1 (σ k2 0).2 z2 0 es.length]]⟩)),_,_,_,λ C => ?_,h3,?_,hr.Hh (ky:=ky) hm bh (GO.1 iv) h1 h2⟩
     ·simp only[e9,xe,hr.ev e (by intro e;cases e),DL,AJ.get,hs,w6,A8.e8]
      rw[if_pos (by simp),if_pos ⟨trivial,trivial,by rw[F6];exact Nat.le_refl _,by simpa using g3,by simpa using g4⟩];rw[zT (by rw[F6];exact Nat.le_refl _)];rfl
     ·simp only[CI.res,DL,B1]
    ·exact h.elim
   ·exact h.elim
  ·rename_i e
   cases fj:F5 s<;>simp only[fj,cond_true,cond_false]at h;cases ic:Nat.beq z 1<;>simp only[ic,cond_true,cond_false]at h;obtain rfl:=BJ.1 ic;split at h
   ·rename_i s2 z3 es bh
    cases Ep:Nat.beq z2 z3<;>simp only[Ep,cond_true,cond_false]at h;obtain rfl:=BJ.1 Ep;rw[Q8]at h;obtain ⟨⟨rfl,g3⟩,h⟩:=h;obtain ⟨k,h1,h2,h3⟩:=I2 h;obtain ⟨σ',q1,q2⟩:=hr.Ly (q:=s) bh (λ e=>(RF h1 _ _ _ bh).1 e.symm) h1 h2 fj;refine ⟨.bn (.row s (st.own.g9 s) 1 0 1) (st.own.put s ((st.own s).new ⟨1,[[.row (σ k2 0).1 (σ k2 0).2 z2 0 es.length]]⟩)),σ',_,_,λ C => ?_,h3,?_,q2⟩
    ·simp only[e9,xe,hr.ev e (by intro e;cases e),G1]
     rw[if_pos (by simp),if_pos ⟨by simpa [FI] using g3,by simp⟩];rfl
    ·simp only[CI.res,DL,q1]
   ·exact h.elim
  ·exact h.elim
 ·rename_i ky Je
  obtain ⟨nb,sy,nw⟩:=Zd Je;have ib:=hr.sat.site _ _ _ nw;have nn:=hr.sat.e8 _ _ _ (EU nw);rw[ib]at nn
  have xe:FD st.own (st.ev y)=some [[.nil]]:=by
   rw[hr.ev nb (by intro e;cases e)];simp only[DL,FD,AJ.get,ib,nn,A8.e8,List.length_cons,List.length_nil];simp
  split at h
  ·rename_i key z' off len e
   cases ho:Nat.beq off 0<;>simp only[ho,cond_true,cond_false]at h;cases hz:Nat.beq z' 1<;>simp only[hz,cond_true,cond_false]at h;cases ic:Nat.beq z 1<;>simp only[ic,cond_true,cond_false]at h;cases Ke:Nat.beq key ky<;>simp only[Ke,cond_true,cond_false]at h;obtain rfl:=BJ.1 ho;obtain rfl:=BJ.1 hz;obtain rfl:=BJ.1 ic;split at h
   ·rename_i s' rows hm
    rw[Q8]at h;obtain ⟨rfl,g3,g4,h⟩:=h;obtain ⟨k,h1,h2,h3⟩:=I2 h;have hs:=hr.sat.site _ _ _ hm;have w6:=hr.sat.e8 _ _ _ (EU hm);rw[hs]at w6;refine ⟨.bn (.row s' (st.own.g9 s') 1 0 (rows.length+1)) (st.own.put s' (((st.own s').o7 (σ key 0).2 none).new ⟨1,B7 σ key 0 rows++[[.nil]]⟩)),_,_,_,λ C => ?_,h3,?_,hr.Hi hm h1 h2⟩
    ·simp only[e9,xe,hr.ev e (by intro e;cases e),DL,AJ.get,hs,w6,A8.e8]
     rw[if_pos (by simp),if_pos ⟨trivial,trivial,by rw[F6];exact Nat.le_refl _,by simpa using g3,by simpa using g4⟩];rw[zT (by rw[F6];exact Nat.le_refl _)];rfl
    ·simp only[CI.res,DL,B1]
   ·exact h.elim
  ·rename_i e
   cases fj:F5 s<;>simp only[fj,cond_true,cond_false]at h;cases ic:Nat.beq z 1<;>simp only[ic,cond_true,cond_false]at h;obtain rfl:=BJ.1 ic;obtain ⟨g3,h⟩:=h;obtain ⟨k,h1,h2,h3⟩:=I2 h;have fq:A8.flat (.mx [none]):=by
    intro i x hx;cases i with
    | zero=>simp at hx
    | succ i=>simp at hx
   refine ⟨.bn (.row s (st.own.g9 s) 1 0 1) (st.own.put s ((st.own s).new ⟨1,[[.nil]]⟩)),_,_,_,λ C => ?_,h3,?_,hr.eg h1 h2 (.mx [none]) fq rfl (λ_=>fj)⟩
   ·simp only[e9,xe,hr.ev e (by intro e;cases e),G1]
    rw[if_pos (by simp),if_pos ⟨by simpa [FI] using g3,by simp⟩];rfl
   ·simp only[CI.res,DL,B1]
  ·exact h.elim
 ·exact Zw hr h
end
end Go.c6
