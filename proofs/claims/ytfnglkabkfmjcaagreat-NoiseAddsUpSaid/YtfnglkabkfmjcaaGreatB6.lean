/-
  The walk by computation is sound.
-/
import Derived.Test.YtfnglkabkfmjcaaGreatB5
set_option linter.unusedSimpArgs false
set_option linter.unusedVariables false
set_option linter.unnecessarySimpa false
namespace Go.c9
theorem BS {a b:Nat}:Nat.beq a b=true↔a=b:=⟨Nat.eq_of_beq_eq_true,λ h=>by subst h;simp⟩
theorem FM {a b:Nat}:Nat.beq a b=false↔a≠b:=by
 constructor
 ·exact Nat.ne_of_beq_eq_false
 ·intro h
  cases e:Nat.beq a b
  ·rfl
  ·exact absurd (Nat.eq_of_beq_eq_true e) h
theorem LB (j:Nat) : ∀ tm:Tm,tg tm j=j4 tm j
 | []=>rfl
 | (i,v)::r=>by
  simp only[tg,bU,LB j r];cases e:Nat.beq j i
  ·rw[if_neg (FM.1 e)];rfl
  ·rw[if_pos (BS.1 e)];rfl
theorem G5 : ∀ (l:List AV) (K:List AV->Prop),fL l K=K l
 | [],_=>rfl
 | v::r,K=>by rw[fL,G5 r]
theorem YK : ∀ (l:Tm) (K:Tm->Prop),fT l K=K l
 | [],_=>rfl
 | (i,v)::r,K=>by rw[fT,YK r]
theorem OD : ∀ (l:Mem) (K:Mem->Prop),fM l K=K l
 | [],_=>rfl
 | (k,s,c)::r,K=>by rw[fM,OD r]
theorem Ahr (n:Nat) (K:Nat->Prop):fN n K=K n:=by cases n<;>rfl
theorem jD (m i:Nat):bit m i=m.testBit i:=by
 have h:Nat.land (Nat.shiftRight m i) 1=(m >>> i)%2:=Nat.and_one_is_mod (m >>> i);have ht:m.testBit i=decide ((m >>> i)%2=1):=by
  rw[Nat.testBit,Nat.and_comm,Nat.and_one_is_mod];rcases Nat.mod_two_eq_zero_or_one (m >>> i) with e|e<;>simp [e]
 unfold bit;rw[h,ht];rcases Nat.mod_two_eq_zero_or_one (m >>> i) with e|e<;>rw[e]<;>rfl
theorem rY (m i j:Nat):bit (Nat.lor m (Nat.shiftLeft 1 i)) j=(bit m j||decide (j=i)):=by
 rw[jD,jD];show (m ||| (1 <<< i)).testBit j=_;rw[Nat.testBit_or,Nat.testBit_shiftLeft];congr 1;by_cases h:j=i
 ·subst h;simp
 ·by_cases h2:j≥i
  ·obtain ⟨d,rfl⟩ : ∃ d,j=i+d+1:=⟨j-i-1,by omega⟩
   rw[show i+d+1-i=d+1 by omega,Nat.testBit_succ];simp [h]
  ·simp [h2,h]
theorem rX : ∀ (ts:List Nat) (m j:Nat),bit (mask m ts) j=(bit m j||ts.contains j)
 | [],m,j=>by simp [mask]
 | t::ts,m,j=>by
  rw[mask,rX ts,rY,List.contains_cons,Bool.or_assoc];congr 2
theorem jE (j:Nat):bit 0 j=false:=by rw[jD];simp
theorem bS (j:Nat) : ∀ (tm:Tm) (m:Nat),tg (wz m tm) j=bif bit m j then .any else tg tm j
 | [],m=>by cases bit m j<;>rfl
 | (i,v)::r,m=>by
  simp only[wz];cases hb:bit m i
  ·simp only[cond_false,tg,bS j r,rY]
   cases hj:Nat.beq j i
   ·have:decide (j=i)=false:=by simpa using FM.1 hj
    simp only[cond_false,this,Bool.or_false]
   ·obtain rfl:=BS.1 hj
    simp only[cond_true,hb,cond_false]
  ·simp only[cond_true,tg,bS j r]
   cases hj:Nat.beq j i
   ·rfl
   ·obtain rfl:=BS.1 hj
    simp only[hb,cond_true]
theorem eG {v:AV} {K:AV->Prop} (h:fV v K):v ≠ .any/\K v:=by
 cases v<;>simp only[fV,G5]at h<;>first|exact h.elim|exact ⟨(by intro e;cases e),h⟩
theorem eF {v:AV} {K:List AV->Prop} (h:fC v K):v ≠ .any /\ ∃ cs,cellsOf v=some cs/\K cs:=by
 cases v<;>simp only[fC,fV,G5]at h<;>first|exact h.elim|exact ⟨(by intro e;cases e),_,rfl,h⟩
theorem UB (b:Bool) (K:Bool->Prop):fB b K=K b:=by cases b<;>rfl
theorem Sb {k:Nat} {tm:Tm} {M:Mem} (h:used k tm M=false):GY k M=false/\IH k tm=false:=by
 unfold used at h;cases h1:GY k M<;>simp only[h1,cond_true,cond_false]at h
 ·exact ⟨rfl,h⟩
 ·cases h
theorem Rh {tm:Tm} {M:Mem} {K:Nat->Prop} : ∀ {l:List Nat},fS tm M l K -> ∃ k,GY k M=false/\IH k tm=false/\K k
 | [],h=>h.elim
 | k::r,h=>by
  simp only[fS]at h;cases h0:used k tm M<;>simp only[h0,cond_true,cond_false]at h
  ·exact ⟨k,(Sb h0).1,(Sb h0).2,h⟩
  ·exact Rh h
theorem HK {s:Nat} {tm:Tm} {M:Mem} {K:Nat->Prop} (h:GA s tm M K) : ∃ k,GY k M=false/\IH k tm=false/\K k:=Rh h
section
variable {σ:FR}
def C5 (σ:FR) (k:Nat) (f:Nat->Nat × Nat):FR:=λ j t=>if j=k then f t else σ j t
theorem CT {k j:Nat} (f:Nat->Nat × Nat) (h:j≠k):C5 σ k f j=σ j:=by funext t;simp [C5,h]
theorem B1 (k:Nat) (f:Nat->Nat × Nat):C5 σ k f k=f:=by funext t;simp [C5]
theorem pJ {k:Nat} {p:Nat->Nat × Nat} {v:AV} (h:SF k v=false):A9 (C5 σ k p) v=A9 σ v:=by
 cases v with
 | row j t z o n=>simp only[SF]at h;simp only[A9,CT p (FM.1 h)]
 | ptr j t a b=>simp only[SF]at h;simp only[A9,CT p (FM.1 h)]
 | _=>rfl
theorem Y6 {k:Nat} {p:Nat->Nat × Nat} : ∀ {cs:List AV},IG k cs=false->cs.map (A9 (C5 σ k p))=cs.map (A9 σ)
 | [],_=>rfl
 | c::r,h=>by
  simp only[IG]at h;cases h1:SF k c<;>simp only[h1,cond_true,cond_false]at h
  ·rw[List.map_cons,List.map_cons,pJ h1,Y6 h]
  ·cases h
theorem pH {k:Nat} {p:Nat->Nat × Nat} : ∀ {es:List (List AV)},JW k es=false->(es.map λ cs=>cs.map (A9 (C5 σ k p)))=es.map λ cs=>cs.map (A9 σ)
 | [],_=>rfl
 | c::r,h=>by
  simp only[JW]at h;cases h1:IG k c<;>simp only[h1,cond_true,cond_false]at h
  ·rw[List.map_cons,List.map_cons,Y6 h1,pH h]
  ·cases h
theorem bP {k:Nat} {p:Nat->Nat × Nat} {v:AV} (h:UR k v=false):BV (C5 σ k p) v=BV σ v:=by
 cases v with
 | agg cs=>simp only[UR]at h;simp only[BV,Y6 h]
 | fn p f g cs=>simp only[UR]at h;simp only[BV,Y6 h]
 | row a b c d e=>exact pJ (v := .row a b c d e) h
 | ptr a b c d=>exact pJ (v := .ptr a b c d) h
 | _=>rfl
theorem Te {k:Nat} {p:Nat->Nat × Nat} : ∀ {cs:List AV},Y1 k cs=false->cs.map (BV (C5 σ k p))=cs.map (BV σ)
 | [],_=>rfl
 | c::r,h=>by
  simp only[Y1]at h;cases h1:UR k c<;>simp only[h1,cond_true,cond_false]at h
  ·rw[List.map_cons,List.map_cons,bP h1,Te h]
  ·cases h
theorem hH {k:Nat} {p:Nat->Nat × Nat} {v:AV} (h:SG k v=false):BI (C5 σ k p) v=BI σ v:=by
 cases v with
 | j5 cs=>simp only[SG]at h;simp only[BI,Te h]
 | agg cs=>exact bP (v := .agg cs) h
 | fn p f g cs=>exact bP (v := .fn p f g cs) h
 | row a b c d e=>exact bP (v := .row a b c d e) h
 | ptr a b c d=>exact bP (v := .ptr a b c d) h
 | _=>rfl
theorem Y2 {k:Nat} : ∀ {tm:Tm},IH k tm=false -> ∀ j,SG k (tg tm j)=false
 | [],_,_=>rfl
 | (i,v)::r,h,j=>by
  simp only[IH]at h;cases h1:SG k v<;>simp only[h1,cond_true,cond_false]at h
  ·simp only[tg]
   cases Nat.beq j i
   ·exact Y2 h j
   ·exact h1
  ·cases h
theorem TI {k:Nat} : ∀ {M:Mem},GY k M=false -> ∀ j s c,e8 M j=some (s,c)->j≠k/\G7 k c=false
 | [],_,_,_,_,e=>by cases e
 | (i,s0,c0)::r,h,j,s,c,e=>by
  simp only[GY]at h;cases h0:Nat.beq k i<;>simp only[h0,cond_true,cond_false]at h
  ·cases h1:G7 k c0<;>simp only[h1,cond_true,cond_false]at h
   ·simp only[e8]at e
    cases h2:Nat.beq j i<;>simp only[h2,cond_true,cond_false]at e
    ·exact TI h j s c e
    ·simp only[Option.some.injEq,Prod.mk.injEq]at e
     obtain ⟨_,rfl⟩:=e;exact ⟨λ e=>FM.1 h0 (e.symm.trans (BS.1 h2)),h1⟩
   ·cases h
  ·cases h
theorem VQ {σ σ':FR} {k:Nat} : ∀ (rows:List (Option (Nat × List (List AV)))) (i:Nat),(∀ j,i<=j->σ k (j+1)=σ' k (j+1))->B5 σ k i rows=B5 σ' k i rows
 | [],i,h=>rfl
 | none::r,i,h=>by rw[B5,B5,VQ r (i+1) λ j hj=>h j (by omega)]
 | some (z,es)::r,i,h=>by rw[B5,B5,VQ r (i+1) λ j hj=>h j (by omega),h i (by omega)]
theorem E9 {k:Nat} : ∀ (rows:List (Option (Nat × List (List AV)))) (i j:Nat),(B5 σ k i rows)[j]? = (rows[j]?).map λ r=>match r with|none=>[.nil]|some (z,es)=>[.row (σ k (i+j+1)).1 (σ k (i+j+1)).2 z 0 es.length]
 | [],i,j=>by simp [B5]
 | none::r,i,0=>by simp [B5]
 | none::r,i,j+1=>by simp only[B5,List.getElem?_cons_succ,E9 r (i+1) j];rw[show i+1+j=i+(j+1) by omega]
 | some (z,es)::r,i,0=>by simp [B5]
 | some (z,es)::r,i,j+1=>by simp only[B5,List.getElem?_cons_succ,E9 r (i+1) j];rw[show i+1+j=i+(j+1) by omega]
theorem FA {k:Nat} : ∀ (rows:List (Option (Nat × List (List AV)))) (i:Nat),(B5 σ k i rows).length=rows.length
 | [],i=>rfl
 | none::r,i=>by simp [B5,FA r]
 | some (z,es)::r,i=>by simp [B5,FA r]
theorem cX {k j:Nat} {f:Nat->Nat × Nat} {c:A8} (h:G7 k c=false) (hj:j≠k):c.g7 (C5 σ k f) j=c.g7 σ j:=by
 cases c with
 | bx cs=>simp only[G7]at h;simp only[A8.g7,Y6 h]
 | rw z es=>rfl
 | bs z es=>simp only[G7]at h;simp only[A8.g7,pH h]
 | mx rows=>simp only[A8.g7];rw[VQ rows 0 λ i _=>by rw[CT f hj]]
 | hx a v rows=>simp only[A8.g7];rw[VQ rows 0 λ i _=>by rw[CT f hj]]
 | vw w rows=>simp only[A8.g7];rw[VQ rows 0 λ i _=>by rw[CT f hj]]
theorem AeL {v:AV} (h:ux v=true):A9 σ v=v:=by cases v<;>first|rfl|cases h
theorem IU : ∀ {cs:List AV},D8 cs=true->cs.map (A9 σ)=cs
 | [],_=>rfl
 | c::r,h=>by
  simp only[D8]at h;cases h1:ux c<;>simp only[h1,cond_true,cond_false]at h
  ·cases h
  ·rw[List.map_cons,AeL h1,IU h]
theorem AeK {k:Nat} {v:AV} (h:ux v=true):SF k v=false:=by cases v<;>first|rfl|cases h
theorem jX {k:Nat} : ∀ {cs:List AV},D8 cs=true->IG k cs=false
 | [],_=>rfl
 | c::r,h=>by
  simp only[D8]at h;cases h1:ux c<;>simp only[h1,cond_true,cond_false]at h
  ·cases h
  ·simp only[IG,AeK h1,jX h,cond_false]
theorem AeE (v:AV):cv v = .any\/(cv v=v/\BI σ v=v):=by
 cases v with
 | agg cs =>
  simp only[cv];cases h:D8 cs
  ·exact Or.inl rfl
  ·exact Or.inr ⟨rfl,by simp only[BI,BV,IU h]⟩
 | j5 vs=>cases vs with
  | nil=>exact Or.inr ⟨rfl,rfl⟩
  | cons=>exact Or.inl rfl
 | fn p f g cs=>cases cs with
  | nil=>exact Or.inr ⟨rfl,rfl⟩
  | cons=>exact Or.inl rfl
 | _=>first|exact Or.inl rfl|exact Or.inr ⟨rfl,rfl⟩
theorem AeB {k:Nat} (v:AV):SG k (cv v)=false:=by
 cases v with
 | agg cs =>
  simp only[cv];cases h:D8 cs
  ·rfl
  ·exact jX h
 | j5 vs=>cases vs<;>rfl
 | fn p f g cs=>cases cs<;>rfl
 | _=>rfl
variable {tm:Tm} {M:Mem} {st:St}
theorem RX.ev (h:RX σ tm M st) {x:AQ} {v:AV} (e:ex tm x=v) (hv:v ≠ .any):st.ev x=BI σ v:=by
 cases x with
 | t n =>
  simp only[ex]at e;rcases h.tm n with h|h
  ·exact absurd (e.symm.trans h) hv
  ·rw[e]at h;exact h
 | c u =>
  simp only[ex]at e;rcases AeE (σ:=σ) u with h|⟨h,h'⟩
  ·exact absurd (e.symm.trans h) hv
  ·rw[<-e,h,h'];rfl
theorem wL {k:Nat} (h:IH k tm=false) (x:AQ):SG k (ex tm x)=false:=by
 cases x with
 | t n=>exact Y2 h n
 | c u=>exact AeB u
theorem Qa {k:Nat} {v:AV} {cs:List AV} (h:SG k v=false) (e:cellsOf v=some cs):IG k cs=false:=by
 cases v<;>simp only[cellsOf,Option.some.injEq,reduceCtorEq]at e<;>subst e<;>first|exact h|rfl|(simp only[SG,UR]at h;simp only[IG,h,cond_false])
theorem S4 {v:AV} {cs:List AV} (e:cellsOf v=some cs):cellsOf (BI σ v)=some (cs.map (A9 σ)):=by
 cases v<;>simp only[cellsOf,Option.some.injEq,reduceCtorEq]at e<;>subst e<;>rfl
def A8.flat:A8->Prop
 | .mx rows => ∀ (i:Nat) (x:Nat × List (List AV)),rows[i]? = some (some x)->False
 | .hx _ _ _=>False
 | .vw _ _=>False
 | _=>True
theorem D4 {M:Mem} {k s:Nat} {c:A8} (h:e8 M k=some (s,c)):c4 M k 0=some c:=by simp [c4,h]
theorem HU {M:Mem} {k t:Nat} {c:A8} (h:c4 M k t=some c) : ∃ s c0,e8 M k=some (s,c0)/\(t=0->c=c0)/\(∀ i,t=i+1 -> ∃ rows z es,((c0 = .mx rows \/ ∃ a v,c0 = .hx a v rows) \/ ∃ w,c0 = .vw w rows)/\rows[i]? = some (some (z,es))/\c = .rw z es):=by
 unfold c4 at h;cases hm:e8 M k with
 | none=>simp [hm]at h
 | some x =>
  obtain ⟨s,c0⟩:=x;simp only[hm]at h;refine ⟨s,c0,rfl,?_,?_⟩
  ·rintro rfl;exact (Option.some.inj h).symm
  ·rintro i rfl
   cases c0 with
   | mx rows =>
    simp only at h;cases hr:rows[i]? with
    | none=>simp [hr]at h
    | some r =>
     cases r with
     | none=>simp [hr]at h
     | some ze=>obtain ⟨z,es⟩:=ze;simp only[hr,Option.some.injEq]at h;exact ⟨rows,z,es,Or.inl (Or.inl rfl),hr,h.symm⟩
   | hx a v rows =>
    simp only at h;cases hr:rows[i]? with
    | none=>simp [hr]at h
    | some r =>
     cases r with
     | none=>simp [hr]at h
     | some ze=>obtain ⟨z,es⟩:=ze;simp only[hr,Option.some.injEq]at h;exact ⟨rows,z,es,Or.inl (Or.inr ⟨a,v,rfl⟩),hr,h.symm⟩
   | vw w rows =>
    simp only at h;cases hr:rows[i]? with
    | none=>simp [hr]at h
    | some r =>
     cases r with
     | none=>simp [hr]at h
     | some ze=>obtain ⟨z,es⟩:=ze;simp only[hr,Option.some.injEq]at h;exact ⟨rows,z,es,Or.inr ⟨w,rfl⟩,hr,h.symm⟩
   | _=>simp at h
theorem OM {M:Mem} {k s:Nat} {c:A8} {j t:Nat} (h:j≠k):c4 ((k,s,c)::M) j t=c4 M j t:=by
 simp only[c4,e8,FM.2 h,cond_false]
theorem VO {M:Mem} {k s:Nat} {c:A8}:c4 ((k,s,c)::M) k 0=some c:=by simp [c4,e8]
theorem YU {M:Mem} {k s:Nat} {c:A8} (hc:c.flat) {t:Nat} {c':A8} (h:c4 ((k,s,c)::M) k t=some c'):t=0/\c'=c:=by
 cases t with
 | zero=>rw[VO]at h;exact ⟨rfl,(Option.some.inj h).symm⟩
 | succ i =>
  simp only[c4,e8,Nat.beq_refl,cond_true]at h;cases c with
  | mx rows =>
   simp only at h;split at h
   ·rename_i z es hr
    exact (hc i (z,es) hr).elim
   ·cases h
  | hx a v rows=>exact hc.elim
  | vw w rows=>exact hc.elim
  | _=>simp at h
theorem Ajr {σ σ':FR} {k k':Nat} {rows:List (Option (Nat × List (List AV)))} (h:A8.flat (.mx rows)):B5 σ k 0 rows=B5 σ' k' 0 rows:=by
 apply List.ext_getElem?;intro j;rw[E9,E9];cases hr:rows[j]? with
 | none=>rfl
 | some r=>cases r with
  | none=>rfl
  | some x=>exact (h j x hr).elim
theorem RX.fw (h:RX σ tm M st) {s q:Nat} (hm:GY s M=false) (ht:IH s tm=false) (c:A8) (hf:c.flat) (hc:G7 s c=false) (hl:c.oa=true->EY q=true) :
  RX (C5 σ s λ_=>(q,st.own.j7 q)) tm ((s,q,c)::M) ⟨st.tm,st.own.put q ((st.own q).new (c.g7 σ s))⟩:=by
 have Nb : ∀ j t c',c4 M j t=some c'->((st.own.put q ((st.own q).new (c.g7 σ s))) (σ j t).1).g7 (σ j t).2=(st.own (σ j t).1).g7 (σ j t).2:=by
  intro j t c' e;by_cases hs:(σ j t).1=q
  ·have ho:=h.sat.old _ _ _ e
   rw[hs]at ho ⊢;simp only[AH.j9,CF.new];rw[if_neg (by omega)]
  ·rw[AH.gp _ _ _ _ hs]
 have Ci : ∀ s',(st.own s').j7<=((st.own.put q ((st.own q).new (c.g7 σ s))) s').j7:=by
  intro s';by_cases hs:s'=q
  ·subst hs;simp only[AH.j9,CF.new];omega
  ·rw[AH.gp _ _ _ _ hs];exact Nat.le_refl _
 have m5 : ∀ j t c',j≠s->c4 ((s,q,c)::M) j t=some c'->c4 M j t=some c':=λ j t c' hj e=>by rwa [OM hj]at e
 have Cz : ∀ j t c',c4 M j t=some c'->G7 s c'=false/\j≠s:=by
  intro j t c' e;obtain ⟨s1,c0,g1,g2,g3⟩:=HU e;obtain ⟨g4,g5⟩:=TI hm _ _ _ g1;refine ⟨?_,g4⟩;cases t with
  | zero=>rw[g2 rfl];exact g5
  | succ i=>obtain ⟨rows,z,es,_,_,rfl⟩:=g3 i rfl;rfl
 refine ⟨λ j => ?_,⟨?_,?_,?_,?_,?_⟩⟩
 ·rw[hH (Y2 ht j)];exact h.tm j
 ·intro j s' c' e
  simp only[e8]at e;cases hb:Nat.beq j s<;>simp only[hb,cond_true,cond_false]at e
  ·rw[CT _ (FM.1 hb)];exact h.sat.site _ _ _ e
  ·simp only[Option.some.injEq,Prod.mk.injEq]at e
   obtain ⟨rfl,rfl⟩:=e;rw[BS.1 hb,B1]
 ·intro j t c' e
  by_cases hj:j=s
  ·subst hj
   obtain ⟨rfl,rfl⟩:=YU hf e;have hb:c'.g7 (C5 σ j λ_=>(q,st.own.j7 q)) j=c'.g7 σ j:=by
    cases c' with
    | bx cs=>simp only[G7]at hc;simp only[A8.g7,Y6 hc]
    | rw z es=>rfl
    | bs z es=>simp only[G7]at hc;simp only[A8.g7,pH hc]
    | mx rows=>exact congrArg (EC.mk 1) (Ajr hf)
    | hx a v rows=>exact hf.elim
    | vw w rows=>exact hf.elim
   rw[B1,hb];simp [AH.j9,CF.new,AH.j7]
  ·have e':=m5 j t c' hj e
   rw[CT _ hj,cX (Cz j t c' e').1 hj];exact (Nb j t c' e').trans (h.sat.g7 _ _ _ e')
 ·intro j t c' e
  by_cases hj:j=s
  ·subst hj
   rw[B1];simp [AH.j9,CF.new,AH.j7]
  ·have e':=m5 j t c' hj e
   rw[CT _ hj];exact Nat.lt_of_lt_of_le (h.sat.old _ _ _ e') (Ci _)
 ·have nc : ∀ j t c',c4 M j t=some c'->σ j t=(q,st.own.j7 q)->False:=by
   intro j t c' e hh;have h2:=h.sat.old _ _ _ e;rw[hh]at h2;exact absurd h2 (Nat.lt_irrefl _)
  intro j t j' t' c1 c2 e1 e2 hj;by_cases h1:j=s<;>by_cases h2:j'=s
  ·subst h1;subst h2
   exact ⟨rfl,(YU hf e1).1.trans (YU hf e2).1.symm⟩
  ·subst h1
   rw[B1,CT _ h2]at hj;exact (nc _ _ _ (m5 _ _ _ h2 e2) hj.symm).elim
  ·subst h2
   rw[B1,CT _ h1]at hj;exact (nc _ _ _ (m5 _ _ _ h1 e1) hj).elim
  ·rw[CT _ h1,CT _ h2]at hj
   exact h.sat.inj _ _ _ _ _ _ (m5 _ _ _ h1 e1) (m5 _ _ _ h2 e2) hj
 ·intro j t c' e hw
  by_cases hj:j=s
  ·subst hj
   obtain ⟨rfl,rfl⟩:=YU hf e;rw[B1];exact hl hw
  ·rw[CT _ hj];exact h.sat.low _ _ _ (m5 j t c' hj e) hw
theorem TG {k j:Nat} {x:Nat × A8} : ∀ {M:Mem},e8 (o5 k M) j=some x->j≠k/\e8 M j=some x
 | [],e=>by cases e
 | (i,s,c)::r,e=>by
  simp only[o5]at e;cases hb:Nat.beq k i<;>simp only[hb,cond_true,cond_false]at e
  ·simp only[e8]at e ⊢
   cases hj:Nat.beq j i<;>simp only[hj,cond_true,cond_false]at e ⊢
   ·exact TG e
   ·exact ⟨λ e'=>FM.1 hb (e'.symm.trans (BS.1 hj)),e⟩
  ·obtain ⟨h1,h2⟩:=TG e
   refine ⟨h1,?_⟩;simp only[e8];rw[FM.2 (λ e'=>h1 (e'.trans (BS.1 hb).symm))];exact h2
theorem W5 {own:AH} {p:Nat × Nat} {x:Option EC} {q:Nat × Nat} (h:q≠p):((own.put p.1 ((own p.1).q5 p.2 x)) q.1).g7 q.2=(own q.1).g7 q.2:=by
 by_cases hs:q.1=p.1
 ·rw[hs,AH.j9]
  simp only[CF.q5];rw[if_neg (λ e=>h (Prod.ext hs e))]
 ·rw[AH.gp _ _ _ _ hs]
theorem fZ {own:AH} {p:Nat × Nat} {x:Option EC}:((own.put p.1 ((own p.1).q5 p.2 x)) p.1).g7 p.2=x:=by simp [AH.j9,CF.q5]
theorem bC {own:AH} {p:Nat × Nat} {x:Option EC} (s:Nat):((own.put p.1 ((own p.1).q5 p.2 x)) s).j7=(own s).j7:=by
 by_cases hs:s=p.1
 ·subst hs;rw[AH.j9];rfl
 ·rw[AH.gp _ _ _ _ hs]
theorem RX.Pf (h:RX σ tm M st) {k s:Nat} {c:A8} (e:e8 M k=some (s,c)) (hf:c.flat) (c':A8) (nk:c'.flat) (hir:c'.oa=true->c.oa=true) :
  RX σ tm ((k,s,c')::M) ⟨st.tm,st.own.put s ((st.own s).q5 (σ k 0).2 (some (c'.g7 σ k)))⟩:=by
 have hs:=h.sat.site _ _ _ e;subst hs;have e0:=D4 e;have hg : ∀ j t c1,c4 ((k,(σ k 0).1,c')::M) j t=some c1->(j=k/\t=0/\c1=c')\/(j≠k/\c4 M j t=some c1):=by
  intro j t c1 e1;by_cases hj:j=k
  ·subst hj
   obtain ⟨rfl,rfl⟩:=YU nk e1;exact Or.inl ⟨rfl,rfl,rfl⟩
  ·rw[OM hj]at e1
   exact Or.inr ⟨hj,e1⟩
 have rm : ∀ j t c1,c4 ((k,(σ k 0).1,c')::M) j t=some c1 -> ∃ c2,c4 M j t=some c2:=by
  intro j t c1 e1;rcases hg j t c1 e1 with ⟨rfl,rfl,rfl⟩|⟨_,h2⟩
  ·exact ⟨c,e0⟩
  ·exact ⟨c1,h2⟩
 refine ⟨h.tm,⟨?_,?_,?_,?_,?_⟩⟩
 ·intro j s' c1 e1
  simp only[e8]at e1;cases hb:Nat.beq j k<;>simp only[hb,cond_true,cond_false]at e1
  ·exact h.sat.site _ _ _ e1
  ·simp only[Option.some.injEq,Prod.mk.injEq]at e1
   rw[BS.1 hb];exact e1.1
 ·intro j t c1 e1
  rcases hg j t c1 e1 with ⟨rfl,rfl,rfl⟩|⟨h1,h2⟩
  ·exact fZ
  ·refine (W5 (λ he => ?_)).trans (h.sat.g7 _ _ _ h2)
   exact h1 (h.sat.inj _ _ _ _ _ _ h2 e0 he).1
 ·intro j t c1 e1
  obtain ⟨c2,e2⟩:=rm _ _ _ e1;show (σ j t).2<((st.own.put (σ k 0).1 ((st.own (σ k 0).1).q5 (σ k 0).2 (some (c'.g7 σ k)))) (σ j t).1).j7;rw[bC];exact h.sat.old _ _ _ e2
 ·intro j t j' t' c1 c2 e1 e2 hj
  obtain ⟨_,Ey⟩:=rm _ _ _ e1;obtain ⟨_,Bl⟩:=rm _ _ _ e2;exact h.sat.inj _ _ _ _ _ _ Ey Bl hj
 ·intro j t c1 e1 hw
  rcases hg j t c1 e1 with ⟨rfl,rfl,rfl⟩|⟨_,h2⟩
  ·exact h.sat.low _ _ _ e0 (hir hw)
  ·exact h.sat.low _ _ _ h2 hw
theorem fA {k t:Nat} {c:A8} (h:c4 M k (t+1)=some c):c.oa=true:=by
 obtain ⟨_,_,_,_,g3⟩:=HU h;obtain ⟨_,_,_,_,_,rfl⟩:=g3 t rfl;rfl
theorem PQ {k j t:Nat} {c:A8} (h:c4 (o5 k M) j t=some c):j≠k/\c4 M j t=some c:=by
 obtain ⟨s,c0,g1,_⟩:=HU h;obtain ⟨h1,h2⟩:=TG g1;refine ⟨h1,?_⟩;unfold c4 at h ⊢;rw[g1]at h;rw[h2];exact h
theorem RX.kill (h:RX σ tm M st) {k s:Nat} {c:A8} (e:e8 M k=some (s,c)) :
  RX σ tm (o5 k M) ⟨st.tm,st.own.put s ((st.own s).q5 (σ k 0).2 none)⟩:=by
 have hs:=h.sat.site _ _ _ e;subst hs;have e0:=D4 e;refine ⟨h.tm,⟨?_,?_,?_,?_,?_⟩⟩
 ·intro j s' c1 e1
  exact h.sat.site _ _ _ (TG e1).2
 ·intro j t c1 e1
  obtain ⟨hj,e1⟩:=PQ e1;refine (W5 (λ he => ?_)).trans (h.sat.g7 _ _ _ e1);exact hj (h.sat.inj _ _ _ _ _ _ e1 e0 he).1
 ·intro j t c1 e1
  obtain ⟨hj,e1⟩:=PQ e1;show (σ j t).2<((st.own.put (σ k 0).1 ((st.own (σ k 0).1).q5 (σ k 0).2 none)) (σ j t).1).j7;rw[bC];exact h.sat.old _ _ _ e1
 ·intro j t j' t' c1 c2 e1 e2 hj
  exact h.sat.inj _ _ _ _ _ _ (PQ e1).2 (PQ e2).2 hj
 ·intro j t c1 e1 hw
  exact h.sat.low _ _ _ (PQ e1).2 hw
theorem RX.Pb (h:RX σ tm M st) {k s i z:Nat} {rows:List (Option (Nat × List (List AV)))} {es es':List (List AV)} (e:e8 M k=some (s,.mx rows)) (hr:rows[i]? = some (some (z,es))) (hl:es'.length=es.length) :
  RX σ tm ((k,s,.mx (rows.set i (some (z,es'))))::M) ⟨st.tm,st.own.put (σ k (i+1)).1 ((st.own (σ k (i+1)).1).q5 (σ k (i+1)).2 (some ⟨z,es'⟩))⟩:=by
 have e1:c4 M k (i+1)=some (.rw z es):=by simp [c4,e,hr]
 have hi:i<rows.length:=(zS hr).1;have ko:B5 σ k 0 (rows.set i (some (z,es')))=B5 σ k 0 rows:=by
  apply List.ext_getElem?;intro j;rw[E9,E9];by_cases hj:i=j
  ·subst hj;rw[List.getElem?_set_self hi,hr];simp [hl]
  ·rw[List.getElem?_set_ne hj]
 have hg : ∀ j t c1,c4 ((k,s,.mx (rows.set i (some (z,es'))))::M) j t=some c1->(j=k/\t=i+1/\c1 = .rw z es')\/(¬ (j=k/\t=i+1) /\ ∃ c2,c4 M j t=some c2/\c2.g7 σ j=c1.g7 σ j):=by
  intro j t c1 g;by_cases hj:j=k
  ·subst hj
   cases t with
   | zero =>
    rw[VO]at g;obtain rfl:=Option.some.inj g;exact Or.inr ⟨by omega,_,D4 e,by simp only[A8.g7,ko]⟩
   | succ t =>
    simp only[c4,e8,Nat.beq_refl,cond_true]at g;by_cases uj:i=t
    ·subst uj
     rw[List.getElem?_set_self hi]at g;exact Or.inl ⟨rfl,rfl,(Option.some.inj g).symm⟩
    ·rw[List.getElem?_set_ne uj]at g
     refine Or.inr ⟨by omega,c1,?_,rfl⟩;simp only[c4,e];exact g
  ·rw[OM hj]at g
   exact Or.inr ⟨by omega,c1,g,rfl⟩
 have rm : ∀ j t c1,c4 ((k,s,.mx (rows.set i (some (z,es'))))::M) j t=some c1 -> ∃ c2,c4 M j t=some c2:=by
  intro j t c1 g;rcases hg j t c1 g with ⟨rfl,rfl,rfl⟩|⟨_,c2,h2,_⟩
  ·exact ⟨_,e1⟩
  ·exact ⟨c2,h2⟩
 refine ⟨h.tm,⟨?_,?_,?_,?_,?_⟩⟩
 ·intro j s' c1 g
  simp only[e8]at g;cases hb:Nat.beq j k<;>simp only[hb,cond_true,cond_false]at g
  ·exact h.sat.site _ _ _ g
  ·simp only[Option.some.injEq,Prod.mk.injEq]at g
   rw[BS.1 hb,<-g.1];exact h.sat.site _ _ _ e
 ·intro j t c1 g
  rcases hg j t c1 g with ⟨rfl,rfl,rfl⟩|⟨h1,c2,h2,h3⟩
  ·exact fZ
  ·rw[<-h3]
   refine (W5 (λ he => ?_)).trans (h.sat.g7 _ _ _ h2);exact h1 (h.sat.inj _ _ _ _ _ _ h2 e1 he)
 ·intro j t c1 g
  obtain ⟨c2,e2⟩:=rm _ _ _ g;show (σ j t).2<((st.own.put (σ k (i+1)).1 ((st.own (σ k (i+1)).1).q5 (σ k (i+1)).2 (some ⟨z,es'⟩))) (σ j t).1).j7;rw[bC];exact h.sat.old _ _ _ e2
 ·intro j t j' t' c1 c2 g1 g2 hj
  obtain ⟨_,Ey⟩:=rm _ _ _ g1;obtain ⟨_,Bl⟩:=rm _ _ _ g2;exact h.sat.inj _ _ _ _ _ _ Ey Bl hj
 ·intro j t c1 g hw
  obtain ⟨c2,e2⟩:=rm _ _ _ g;cases t with
  | zero =>
   by_cases hj:j=k
   ·subst hj;exact h.sat.low _ _ _ (D4 e) rfl
   ·rw[OM hj]at g;exact h.sat.low _ _ _ g hw
  | succ t=>exact h.sat.low _ _ _ e2 (fA e2)
section
variable {k:Nat} {f:Nat->Nat × Nat}
theorem pI {v:AV} (hf:f 0=σ k 0) (h:T6 k v=false):A9 (C5 σ k f) v=A9 σ v:=by
 cases v with
 | row j t z o n =>
  simp only[T6]at h;cases hb:Nat.beq j k
  ·simp only[A9,CT f (FM.1 hb)]
  ·obtain rfl:=BS.1 hb
   simp only[hb,cond_true]at h;cases t with
   | zero=>simp only[A9,B1,hf]
   | succ t=>cases h
 | ptr j t a b =>
  simp only[T6]at h;cases hb:Nat.beq j k
  ·simp only[A9,CT f (FM.1 hb)]
  ·obtain rfl:=BS.1 hb
   simp only[hb,cond_true]at h;cases t with
   | zero=>simp only[A9,B1,hf]
   | succ t=>cases h
 | _=>rfl
theorem bN (hf:f 0=σ k 0) : ∀ {cs:List AV},S6 k cs=false->cs.map (A9 (C5 σ k f))=cs.map (A9 σ)
 | [],_=>rfl
 | c::r,h=>by
  simp only[S6]at h;cases h1:T6 k c<;>simp only[h1,cond_true,cond_false]at h
  ·rw[List.map_cons,List.map_cons,pI hf h1,bN hf h]
  ·cases h
theorem Tc (hf:f 0=σ k 0) : ∀ {es:List (List AV)},X3 k es=false->(es.map λ cs=>cs.map (A9 (C5 σ k f)))=es.map λ cs=>cs.map (A9 σ)
 | [],_=>rfl
 | c::r,h=>by
  simp only[X3]at h;cases h1:S6 k c<;>simp only[h1,cond_true,cond_false]at h
  ·rw[List.map_cons,List.map_cons,bN hf h1,Tc hf h]
  ·cases h
theorem bO {v:AV} (hf:f 0=σ k 0) (h:WF k v=false):BV (C5 σ k f) v=BV σ v:=by
 cases v with
 | agg cs=>simp only[WF]at h;simp only[BV,bN hf h]
 | fn p f g cs=>simp only[WF]at h;simp only[BV,bN hf h]
 | row a b c d e=>exact pI (v := .row a b c d e) hf h
 | ptr a b c d=>exact pI (v := .ptr a b c d) hf h
 | _=>rfl
theorem Td (hf:f 0=σ k 0) : ∀ {cs:List AV},X2 k cs=false->cs.map (BV (C5 σ k f))=cs.map (BV σ)
 | [],_=>rfl
 | c::r,h=>by
  simp only[X2]at h;cases h1:WF k c<;>simp only[h1,cond_true,cond_false]at h
  ·rw[List.map_cons,List.map_cons,bO hf h1,Td hf h]
  ·cases h
theorem Tf {v:AV} (hf:f 0=σ k 0) (h:U7 k v=false):BI (C5 σ k f) v=BI σ v:=by
 cases v with
 | j5 cs=>simp only[U7]at h;simp only[BI,Td hf h]
 | agg cs=>exact bO (v := .agg cs) hf h
 | fn p f g cs=>exact bO (v := .fn p f g cs) hf h
 | row a b c d e=>exact bO (v := .row a b c d e) hf h
 | ptr a b c d=>exact bO (v := .ptr a b c d) hf h
 | _=>rfl
theorem jK : ∀ {tm:Tm},J6 k tm=false -> ∀ j,U7 k (tg tm j)=false
 | [],_,_=>rfl
 | (i,v)::r,h,j=>by
  simp only[J6]at h;cases h1:U7 k v<;>simp only[h1,cond_true,cond_false]at h
  ·simp only[tg]
   cases Nat.beq j i
   ·exact jK h j
   ·exact h1
  ·cases h
theorem jJ : ∀ {M:Mem},IO k M=false -> ∀ j s c,e8 M j=some (s,c)->S5 k c=false
 | [],_,_,_,_,e=>by cases e
 | (i,s0,c0)::r,h,j,s,c,e=>by
  simp only[IO]at h;cases h1:S5 k c0<;>simp only[h1,cond_true,cond_false]at h
  ·simp only[e8]at e
   cases h2:Nat.beq j i<;>simp only[h2,cond_true,cond_false]at e
   ·exact jJ h j s c e
   ·simp only[Option.some.injEq,Prod.mk.injEq]at e
    obtain ⟨_,rfl⟩:=e;exact h1
  ·cases h
theorem sB {c:A8} {j:Nat} (hf:f 0=σ k 0) (h:S5 k c=false) (hj:j≠k):c.g7 (C5 σ k f) j=c.g7 σ j:=by
 cases c with
 | bx cs=>simp only[S5]at h;simp only[A8.g7,bN hf h]
 | rw z es=>rfl
 | bs z es=>simp only[S5]at h;simp only[A8.g7,Tc hf h]
 | mx rows=>simp only[A8.g7];rw[VQ rows 0 λ i _=>by rw[CT f hj]]
 | hx a v rows=>simp only[A8.g7];rw[VQ rows 0 λ i _=>by rw[CT f hj]]
 | vw w rows=>simp only[A8.g7];rw[VQ rows 0 λ i _=>by rw[CT f hj]]
end
theorem RX.Dk (h:RX σ tm M st) {k k2 s s2 i z:Nat} {rows:List (Option (Nat × List (List AV)))} {es:List (List AV)} {c0:A8} (e:e8 M k=some (s,c0)) (ja:c0 = .mx rows \/ ∃ v,c0 = .hx i v rows) (e2:e8 M k2=some (s2,.rw z es)) (hk:k≠k2) (bu:J6 k tm=false) (nj:IO k M=false) (hi:i<rows.length) :
  RX (C5 σ k λ t=>if t=i+1 then σ k2 0 else σ k t) tm ((k,s,.mx (rows.set i (some (z,es))))::o5 k2 M) ⟨st.tm,st.own.put s ((st.own s).q5 (σ k 0).2 (some ⟨1,(B5 σ k 0 rows).set i [.row (σ k2 0).1 (σ k2 0).2 z 0 es.length]⟩))⟩:=by
 have hs:=h.sat.site _ _ _ e;subst hs;have r0:=D4 e;have r2:=D4 e2;have f0:(λ t=>if t=i+1 then σ k2 0 else σ k t) 0=σ k 0:=by simp
 have ko:B5 (C5 σ k λ t=>if t=i+1 then σ k2 0 else σ k t) k 0 (rows.set i (some (z,es)))=(B5 σ k 0 rows).set i [.row (σ k2 0).1 (σ k2 0).2 z 0 es.length]:=by
  apply List.ext_getElem?;intro j;rw[E9,B1];by_cases hj:i=j
  ·subst hj
   rw[List.getElem?_set_self hi,List.getElem?_set_self (by rw[FA];exact hi)];simp
  ·rw[List.getElem?_set_ne hj,List.getElem?_set_ne hj,E9]
   congr 1;funext r
   cases r with
   | none=>rfl
   | some x=>simp only[Nat.zero_add];rw[if_neg (by omega)]
 have hg : ∀ j t c,c4 ((k,(σ k 0).1,.mx (rows.set i (some (z,es))))::o5 k2 M) j t=some c ->
   (j=k/\t=0/\c = .mx (rows.set i (some (z,es))))\/(j=k/\t=i+1/\c = .rw z es)\/(j=k/\t≠0/\t≠i+1/\c4 M k t=some c)\/(j≠k/\j≠k2/\c4 M j t=some c):=by
  intro j t c g;by_cases hj:j=k
  ·subst hj
   cases t with
   | zero=>rw[VO]at g;exact Or.inl ⟨rfl,rfl,(Option.some.inj g).symm⟩
   | succ t =>
    simp only[c4,e8,Nat.beq_refl,cond_true]at g;by_cases uj:i=t
    ·subst uj
     rw[List.getElem?_set_self hi]at g;exact Or.inr (Or.inl ⟨rfl,rfl,(Option.some.inj g).symm⟩)
    ·rw[List.getElem?_set_ne uj]at g
     refine Or.inr (Or.inr (Or.inl ⟨rfl,by omega,by omega,?_⟩));rcases ja with rfl|⟨v,rfl⟩
     ·simp only[c4,e]
      exact g
     ·simp only[c4,e]
      exact g
  ·rw[OM hj]at g
   obtain ⟨g1,g2⟩:=PQ g;exact Or.inr (Or.inr (Or.inr ⟨hj,g1,g2⟩))
 have Lj : ∀ j t c,c4 M j t=some c->S5 k c=false:=by
  intro j t c g;obtain ⟨s1,c0,g1,g2,g3⟩:=HU g;cases t with
  | zero=>rw[g2 rfl];exact jJ nj _ _ _ g1
  | succ t=>obtain ⟨_,_,_,_,_,rfl⟩:=g3 t rfl;rfl
 refine ⟨λ j => ?_,⟨?_,?_,?_,?_,?_⟩⟩
 ·rw[Tf (f:=λ t=>if t=i+1 then σ k2 0 else σ k t) f0 (jK bu j)];exact h.tm j
 ·intro j s' c g
  simp only[e8]at g;cases hb:Nat.beq j k<;>simp only[hb,cond_true,cond_false]at g
  ·rw[CT _ (FM.1 hb)];exact h.sat.site _ _ _ (TG g).2
  ·simp only[Option.some.injEq,Prod.mk.injEq]at g
   rw[BS.1 hb,B1,<-g.1];simp
 ·intro j t c g
  rcases hg j t c g with ⟨rfl,rfl,rfl⟩|⟨rfl,rfl,rfl⟩|⟨rfl,h0,h1,g2⟩|⟨h0,h1,g2⟩
  ·rw[B1]
   simp only[A8.g7,ko];exact fZ
  ·rw[B1]
   simp only[if_true];exact (W5 (λ he=>hk (h.sat.inj _ _ _ _ _ _ r2 r0 he).1.symm)).trans (h.sat.g7 _ _ _ r2)
  ·rw[B1]
   simp only[h1,if_false];have hb:c.g7 (C5 σ j λ t=>if t=i+1 then σ k2 0 else σ j t) j=c.g7 σ j:=by
    obtain ⟨_,_,_,_,g3⟩:=HU g2;obtain ⟨t',rfl⟩ : ∃ t',t=t'+1:=⟨t-1,by omega⟩;obtain ⟨_,_,_,_,_,rfl⟩:=g3 t' rfl;rfl
   rw[hb];exact (W5 (λ he=>h0 (h.sat.inj _ _ _ _ _ _ g2 r0 he).2)).trans (h.sat.g7 _ _ _ g2)
  ·rw[CT _ h0,sB (f:=λ t=>if t=i+1 then σ k2 0 else σ k t) f0 (Lj _ _ _ g2) h0]
   exact (W5 (λ he=>h0 (h.sat.inj _ _ _ _ _ _ g2 r0 he).1)).trans (h.sat.g7 _ _ _ g2)
 ·intro j t c g
  rw[bC];rcases hg j t c g with ⟨rfl,rfl,rfl⟩|⟨rfl,rfl,rfl⟩|⟨rfl,h0,h1,g2⟩|⟨h0,h1,g2⟩
  ·rw[B1];simpa using h.sat.old _ _ _ r0
  ·rw[B1];simpa using h.sat.old _ _ _ r2
  ·rw[B1];simp only[h1,if_false];exact h.sat.old _ _ _ g2
  ·rw[CT _ h0];exact h.sat.old _ _ _ g2
 ·-- each name is that of En in the old memory
  have hold : ∀ j t c,c4 ((k,(σ k 0).1,.mx (rows.set i (some (z,es))))::o5 k2 M) j t=some c -> ∃ j0 t0 c0,c4 M j0 t0=some c0/\(C5 σ k λ t=>if t=i+1 then σ k2 0 else σ k t) j t=σ j0 t0/\((j0=k2/\t0=0/\j=k/\t=i+1)\/(j0=j/\t0=t/\j≠k2)):=by
   intro j t c g;rcases hg j t c g with ⟨rfl,rfl,rfl⟩|⟨rfl,rfl,rfl⟩|⟨rfl,h0,h1,g2⟩|⟨h0,h1,g2⟩
   ·exact ⟨_,_,_,r0,by rw[B1];simp,Or.inr ⟨rfl,rfl,hk⟩⟩
   ·exact ⟨_,_,_,r2,by rw[B1];simp,Or.inl ⟨rfl,rfl,rfl,rfl⟩⟩
   ·exact ⟨_,_,_,g2,by rw[B1];simp [h1],Or.inr ⟨rfl,rfl,hk⟩⟩
   ·exact ⟨_,_,_,g2,by rw[CT _ h0],Or.inr ⟨rfl,rfl,h1⟩⟩
  intro j t j' t' c c' g g' hj;obtain ⟨j0,t0,c0,a1,a2,a3⟩:=hold j t c g;obtain ⟨j1,t1,c1,b1,b2,b3⟩:=hold j' t' c' g';rw[a2,b2]at hj;obtain ⟨q1,q2⟩:=h.sat.inj _ _ _ _ _ _ a1 b1 hj;rcases a3 with ⟨x1,x2,x3,x4⟩|⟨x1,x2,x3⟩<;>rcases b3 with ⟨y1,y2,y3,y4⟩|⟨y1,y2,y3⟩
  ·exact ⟨x3.trans y3.symm,x4.trans y4.symm⟩
  ·exact absurd (y1.symm.trans (q1.symm.trans x1)) y3
  ·exact absurd (x1.symm.trans (q1.trans y1)) x3
  ·exact ⟨x1.symm.trans (q1.trans y1),x2.symm.trans (q2.trans y2)⟩
 ·intro j t c g hw
  rcases hg j t c g with ⟨rfl,rfl,rfl⟩|⟨rfl,rfl,rfl⟩|⟨rfl,h0,h1,g2⟩|⟨h0,h1,g2⟩
  ·rw[B1];simpa using h.sat.low _ _ _ r0 (by rcases ja with rfl|⟨v,rfl⟩<;>rfl)
  ·rw[B1];simpa using h.sat.low _ _ _ r2 rfl
  ·rw[B1];simp only[h1,if_false];exact h.sat.low _ _ _ g2 hw
  ·rw[CT _ h0];exact h.sat.low _ _ _ g2 hw
theorem WU {own:AH} {q t:Nat} {b:EC} {p:Nat × Nat} (h:p≠(q,t)) (ho:p.2<(own p.1).j7):((own.put q (((own q).q5 t none).new b)) p.1).g7 p.2=(own p.1).g7 p.2:=by
 by_cases hs:p.1=q
 ·rw[hs]at ho ⊢
  rw[AH.j9];simp only[CF.new,CF.q5];have h1 : ¬ p.2=(own q).j7:=by omega
  have h2 : ¬ p.2=t:=λ e=>h (Prod.ext hs e)
  simp only[h1,h2,if_false]
 ·rw[AH.gp _ _ _ _ hs]
theorem WX {own:AH} {q t:Nat} {b:EC} (s:Nat):(own s).j7<=((own.put q (((own q).q5 t none).new b)) s).j7:=by
 by_cases hs:s=q
 ·subst hs;rw[AH.j9];simp only[CF.new,CF.q5];omega
 ·rw[AH.gp _ _ _ _ hs];exact Nat.le_refl _
theorem RX.Jt (h:RX σ tm M st) {s key sk i z:Nat} {rows:List (Option (Nat × List (List AV)))} {es es':List (List AV)} (e:e8 M key=some (sk,.mx rows)) (hr:rows[i]? = some (some (z,es))) (hm:GY s M=false) (ht:IH s tm=false) :
  RX (C5 σ s λ_=>((σ key (i+1)).1,st.own.j7 (σ key (i+1)).1)) tm ((s,(σ key (i+1)).1,.rw z es')::(key,sk,.hx i (.row (σ key (i+1)).1 (σ key (i+1)).2 z 0 es.length) (rows.set i none))::o5 key M)
   ⟨st.tm,st.own.put (σ key (i+1)).1 (((st.own (σ key (i+1)).1).q5 (σ key (i+1)).2 none).new ⟨z,es'⟩)⟩:=by
 have r0:=D4 e;have e1:c4 M key (i+1)=some (.rw z es):=by simp [c4,e,hr]
 have hi:i<rows.length:=(zS hr).1;have Gi:key≠s:=(TI hm _ _ _ e).1;have ko:(B5 (C5 σ s λ_=>((σ key (i+1)).1,st.own.j7 (σ key (i+1)).1)) key 0 (rows.set i none)).set i [.row (σ key (i+1)).1 (σ key (i+1)).2 z 0 es.length]=B5 σ key 0 rows:=by
  apply List.ext_getElem?;intro j;by_cases hj:i=j
  ·subst hj
   rw[List.getElem?_set_self (by rw[FA,List.length_set];exact hi),E9,hr];simp
  ·rw[List.getElem?_set_ne hj,E9,E9,List.getElem?_set_ne hj,CT _ Gi]
 have Cz : ∀ j t c',c4 M j t=some c'->G7 s c'=false/\j≠s:=by
  intro j t c' g;obtain ⟨s1,c0,g1,g2,g3⟩:=HU g;obtain ⟨g4,g5⟩:=TI hm _ _ _ g1;refine ⟨?_,g4⟩;cases t with
  | zero=>rw[g2 rfl];exact g5
  | succ i=>obtain ⟨rows,z,es,_,_,rfl⟩:=g3 i rfl;rfl
 have hg : ∀ j t c,c4 ((s,(σ key (i+1)).1,.rw z es')::(key,sk,.hx i (.row (σ key (i+1)).1 (σ key (i+1)).2 z 0 es.length) (rows.set i none))::o5 key M) j t=some c ->
   (j=s/\t=0/\c = .rw z es')\/(j=key/\t=0/\c = .hx i (.row (σ key (i+1)).1 (σ key (i+1)).2 z 0 es.length) (rows.set i none))\/(j≠s /\ ¬ (j=key/\t=0) /\ ¬ (j=key/\t=i+1)/\(j=key -> ∃ z es,c = .rw z es)/\c4 M j t=some c):=by
  intro j t c g;by_cases hj:j=s
  ·subst hj
   obtain ⟨rfl,rfl⟩:=YU (c := .rw z es') trivial g;exact Or.inl ⟨rfl,rfl,rfl⟩
  ·rw[OM hj]at g
   by_cases hk:j=key
   ·subst hk
    cases t with
    | zero=>rw[VO]at g;exact Or.inr (Or.inl ⟨rfl,rfl,(Option.some.inj g).symm⟩)
    | succ t =>
     simp only[c4,e8,Nat.beq_refl,cond_true]at g;by_cases uj:i=t
     ·subst uj
      rw[List.getElem?_set_self hi]at g;cases g
     ·rw[List.getElem?_set_ne uj]at g
      refine Or.inr (Or.inr ⟨hj,by omega,by omega,λ_ => ?_,?_⟩)
      ·split at g
       ·exact ⟨_,_,(Option.some.inj g).symm⟩
       ·cases g
      ·simp only[c4,e]
       exact g
   ·rw[OM hk]at g
    obtain ⟨g1,g2⟩:=PQ g;exact Or.inr (Or.inr ⟨hj,by omega,by omega,λ h=>absurd h hk,g2⟩)
 refine ⟨λ j => ?_,⟨?_,?_,?_,?_,?_⟩⟩
 ·rw[hH (Y2 ht j)];exact h.tm j
 ·intro j s1 c g
  simp only[e8]at g;cases hb:Nat.beq j s<;>simp only[hb,cond_true,cond_false]at g
  ·rw[CT _ (FM.1 hb)]
   cases u7:Nat.beq j key<;>simp only[u7,cond_true,cond_false]at g
   ·exact h.sat.site _ _ _ (TG g).2
   ·simp only[Option.some.injEq,Prod.mk.injEq]at g
    rw[BS.1 u7,<-g.1];exact h.sat.site _ _ _ e
  ·simp only[Option.some.injEq,Prod.mk.injEq]at g
   rw[BS.1 hb,B1,<-g.1]
 ·intro j t c g
  rcases hg j t c g with ⟨rfl,rfl,rfl⟩|⟨rfl,rfl,rfl⟩|⟨h0,h1,h2,h3,g2⟩
  ·rw[B1]
   simp [AH.j9,CF.new,AH.j7,CF.q5,A8.g7]
  ·rw[CT _ Gi]
   simp only[A8.g7,ko];exact (WU (λ he=>absurd (h.sat.inj _ _ _ _ _ _ r0 e1 he).2 (by omega)) (h.sat.old _ _ _ r0)).trans (h.sat.g7 _ _ _ r0)
  ·rw[CT _ h0,cX (Cz _ _ _ g2).1 h0]
   exact (WU (λ he=>h2 (h.sat.inj _ _ _ _ _ _ g2 e1 he)) (h.sat.old _ _ _ g2)).trans (h.sat.g7 _ _ _ g2)
 ·intro j t c g
  rcases hg j t c g with ⟨rfl,rfl,rfl⟩|⟨rfl,rfl,rfl⟩|⟨h0,h1,h2,h3,g2⟩
  ·rw[B1]
   simp [AH.j9,CF.new,AH.j7,CF.q5]
  ·rw[CT _ Gi]
   exact Nat.lt_of_lt_of_le (h.sat.old _ _ _ r0) (WX _)
  ·rw[CT _ h0]
   exact Nat.lt_of_lt_of_le (h.sat.old _ _ _ g2) (WX _)
 ·have hold : ∀ j t c,c4 ((s,(σ key (i+1)).1,.rw z es')::(key,sk,.hx i (.row (σ key (i+1)).1 (σ key (i+1)).2 z 0 es.length) (rows.set i none))::o5 key M) j t=some c->(j=s/\t=0)\/(j≠s /\ ∃ c0,c4 M j t=some c0):=by
   intro j t c g;rcases hg j t c g with ⟨rfl,rfl,rfl⟩|⟨rfl,rfl,rfl⟩|⟨h0,h1,h2,h3,g2⟩
   ·exact Or.inl ⟨rfl,rfl⟩
   ·exact Or.inr ⟨Gi,_,r0⟩
   ·exact Or.inr ⟨h0,_,g2⟩
  have od : ∀ j0 t0 c0,c4 M j0 t0=some c0->((σ key (i+1)).1,st.own.j7 (σ key (i+1)).1)≠σ j0 t0:=by
   intro j0 t0 c0 g he;have:=h.sat.old _ _ _ g
   rw[<-he]at this;exact absurd this (Nat.lt_irrefl _)
  intro j t j' t' c c' g g' hj;rcases hold j t c g with ⟨rfl,rfl⟩|⟨a1,c1,a2⟩<;>rcases hold j' t' c' g' with ⟨rfl,rfl⟩|⟨b1,c2,b2⟩
  ·exact ⟨rfl,rfl⟩
  ·rw[B1,CT _ b1]at hj;exact absurd hj (od _ _ _ b2)
  ·rw[B1,CT _ a1]at hj;exact absurd hj.symm (od _ _ _ a2)
  ·rw[CT _ a1,CT _ b1]at hj
   exact h.sat.inj _ _ _ _ _ _ a2 b2 hj
 ·intro j t c g hw
  rcases hg j t c g with ⟨rfl,rfl,rfl⟩|⟨rfl,rfl,rfl⟩|⟨h0,h1,h2,h3,g2⟩
  ·rw[B1];exact h.sat.low _ _ _ e1 rfl
  ·rw[CT _ Gi];exact h.sat.low _ _ _ r0 rfl
  ·rw[CT _ h0];exact h.sat.low _ _ _ g2 hw
theorem RX.view (h:RX σ tm M st) {k s:Nat} {c0:A8} {rows:List (Option (Nat × List (List AV)))} {w:List Nat} (e:e8 M k=some (s,c0)) (ja:c0 = .mx rows \/ ∃ w0,c0 = .vw w0 rows) :
  RX σ tm ((k,s,.vw w rows)::M) ⟨st.tm,st.own.put s ((st.own s).q5 (σ k 0).2 (some (A8.g7 σ k (.vw w rows))))⟩:=by
 have hs:=h.sat.site _ _ _ e;subst hs;have r0:=D4 e;have hg : ∀ j t c,c4 ((k,(σ k 0).1,.vw w rows)::M) j t=some c->(j=k/\t=0/\c = .vw w rows)\/(¬ (j=k/\t=0)/\c4 M j t=some c):=by
  intro j t c g;by_cases hj:j=k
  ·subst hj
   cases t with
   | zero=>rw[VO]at g;exact Or.inl ⟨rfl,rfl,(Option.some.inj g).symm⟩
   | succ t =>
    refine Or.inr ⟨by omega,?_⟩;simp only[c4,e8,Nat.beq_refl,cond_true]at g;rcases ja with rfl|⟨w0,rfl⟩
    ·simp only[c4,e]
     exact g
    ·simp only[c4,e]
     exact g
  ·rw[OM hj]at g
   exact Or.inr ⟨by omega,g⟩
 have rm : ∀ j t c1,c4 ((k,(σ k 0).1,.vw w rows)::M) j t=some c1 -> ∃ c2,c4 M j t=some c2:=by
  intro j t c1 g;rcases hg j t c1 g with ⟨rfl,rfl,rfl⟩|⟨_,h2⟩
  ·exact ⟨_,r0⟩
  ·exact ⟨_,h2⟩
 refine ⟨h.tm,⟨?_,?_,?_,?_,?_⟩⟩
 ·intro j s' c1 g
  simp only[e8]at g;cases hb:Nat.beq j k<;>simp only[hb,cond_true,cond_false]at g
  ·exact h.sat.site _ _ _ g
  ·simp only[Option.some.injEq,Prod.mk.injEq]at g
   rw[BS.1 hb];exact g.1
 ·intro j t c1 g
  rcases hg j t c1 g with ⟨rfl,rfl,rfl⟩|⟨h1,h2⟩
  ·exact fZ
  ·refine (W5 (λ he => ?_)).trans (h.sat.g7 _ _ _ h2)
   exact h1 (h.sat.inj _ _ _ _ _ _ h2 r0 he)
 ·intro j t c1 g
  obtain ⟨c2,e2⟩:=rm _ _ _ g;show (σ j t).2<((st.own.put (σ k 0).1 ((st.own (σ k 0).1).q5 (σ k 0).2 _)) (σ j t).1).j7;rw[bC];exact h.sat.old _ _ _ e2
 ·intro j t j' t' c1 c2 g1 g2 hj
  obtain ⟨_,Ey⟩:=rm _ _ _ g1;obtain ⟨_,Bl⟩:=rm _ _ _ g2;exact h.sat.inj _ _ _ _ _ _ Ey Bl hj
 ·intro j t c1 g hw
  rcases hg j t c1 g with ⟨rfl,rfl,rfl⟩|⟨_,h2⟩
  ·exact h.sat.low _ _ _ r0 (by rcases ja with rfl|⟨w0,rfl⟩<;>rfl)
  ·exact h.sat.low _ _ _ h2 hw
theorem RX.Dm (h:RX σ tm M st) {k s:Nat} {rows q7:List (Option (Nat × List (List AV)))} {w:List Nat} (e:e8 M k=some (s,.vw w rows)) (hl:q7.length=w.length)
  (hw : ∀ (i t:Nat),w[i]? = some t -> ∃ r,rows[t]? = some r/\q7[i]? = some r) (hi : ∀ (i i' t:Nat),w[i]? = some t->w[i']? = some t->i=i') (bu:J6 k tm=false) (nj:IO k M=false) :
  ∃ σ',RX σ' tm ((k,s,.mx q7)::M) st:=by
 have hs:=h.sat.site _ _ _ e;subst hs;have r0:=D4 e;obtain ⟨f,hf⟩ : ∃ f:Nat->Nat × Nat,f=λ t=>match t with|0=>σ k 0|i+1=>match w[i]? with|some v=>σ k (v+1)|none=>σ k (i+1):=⟨_,rfl⟩
 have f0:f 0=σ k 0:=by rw[hf]
 have f1 : ∀ i v,w[i]? = some v->f (i+1)=σ k (v+1):=λ i v hv=>by rw[hf];simp only[hv]
 have Lj : ∀ j t c,c4 M j t=some c->S5 k c=false:=by
  intro j t c g;obtain ⟨s1,c0,g1,g2,g3⟩:=HU g;cases t with
  | zero=>rw[g2 rfl];exact jJ nj _ _ _ g1
  | succ t=>obtain ⟨_,_,_,_,_,rfl⟩:=g3 t rfl;rfl
 have El : ∀ i,i<q7.length -> ∃ v r,w[i]? = some v/\rows[v]? = some r/\q7[i]? = some r:=λ i hi=>by
  obtain ⟨v,hv⟩ : ∃ v,w[i]? = some v:=⟨_,zE (by omega)⟩;obtain ⟨r,h1,h2⟩:=hw i v hv;exact ⟨v,r,hv,h1,h2⟩
 have ko:B5 (C5 σ k f) k 0 q7=w.map λ t=>((B5 σ k 0 rows)[t]?).getD []:=by
  apply List.ext_getElem?;intro i;rw[E9,B1,List.getElem?_map];by_cases w9:i<q7.length
  ·obtain ⟨v,r,h1,h2,h3⟩:=El i w9
   rw[h3,h1,Option.map_some,Option.map_some,E9,h2,Option.map_some,Option.getD_some,Nat.zero_add,Nat.zero_add,f1 i v h1]
  ·rw[List.getElem?_eq_none (by omega),List.getElem?_eq_none (by omega)];rfl
 have hg : ∀ j t c,c4 ((k,(σ k 0).1,.mx q7)::M) j t=some c ->
   (j=k/\t=0/\c = .mx q7)\/(∃ i v,j=k/\t=i+1/\w[i]? = some v/\c4 M k (v+1)=some c)\/(j≠k/\c4 M j t=some c):=by
  intro j t c g;by_cases hj:j=k
  ·subst hj
   cases t with
   | zero=>rw[VO]at g;exact Or.inl ⟨rfl,rfl,(Option.some.inj g).symm⟩
   | succ t =>
    simp only[c4,e8,Nat.beq_refl,cond_true]at g;by_cases bm:t<q7.length
    ·obtain ⟨v,r,h1,h2,h3⟩:=El t bm
     refine Or.inr (Or.inl ⟨t,v,rfl,rfl,h1,?_⟩);rw[h3]at g;simp only[c4,e,h2];exact g
    ·rw[List.getElem?_eq_none (by omega)]at g;cases g
  ·rw[OM hj]at g
   exact Or.inr (Or.inr ⟨hj,g⟩)
 have hcr : ∀ v c,c4 M k (v+1)=some c -> ∃ z es,c = .rw z es:=λ v c g=>by
  obtain ⟨_,_,_,_,g3⟩:=HU g;obtain ⟨_,z,es,_,_,rfl⟩:=g3 v rfl;exact ⟨z,es,rfl⟩
 refine ⟨C5 σ k f,λ j => ?_,⟨?_,?_,?_,?_,?_⟩⟩
 ·rw[Tf f0 (jK bu j)];exact h.tm j
 ·intro j s' c g
  simp only[e8]at g;cases hb:Nat.beq j k<;>simp only[hb,cond_true,cond_false]at g
  ·rw[CT _ (FM.1 hb)];exact h.sat.site _ _ _ g
  ·simp only[Option.some.injEq,Prod.mk.injEq]at g
   rw[BS.1 hb,B1,<-g.1,f0]
 ·intro j t c g
  rcases hg j t c g with ⟨rfl,rfl,rfl⟩|⟨i,v,rfl,rfl,h1,g2⟩|⟨h0,g2⟩
  ·rw[B1,f0]
   have:=h.sat.g7 _ _ _ r0
   simp only[A8.g7,ko]at this ⊢;exact this
  ·rw[B1,f1 i v h1]
   obtain ⟨z,es,rfl⟩:=hcr v c g2;exact h.sat.g7 _ _ _ g2
  ·rw[CT _ h0,sB f0 (Lj _ _ _ g2) h0]
   exact h.sat.g7 _ _ _ g2
 ·intro j t c g
  rcases hg j t c g with ⟨rfl,rfl,rfl⟩|⟨i,v,rfl,rfl,h1,g2⟩|⟨h0,g2⟩
  ·rw[B1,f0];exact h.sat.old _ _ _ r0
  ·rw[B1,f1 i v h1];exact h.sat.old _ _ _ g2
  ·rw[CT _ h0];exact h.sat.old _ _ _ g2
 ·have hold : ∀ j t c,c4 ((k,(σ k 0).1,.mx q7)::M) j t=some c -> ∃ j0 t0 c0,c4 M j0 t0=some c0/\(C5 σ k f) j t=σ j0 t0/\((j=k/\j0=k/\((t=0/\t0=0) \/ ∃ i v,t=i+1/\t0=v+1/\w[i]? = some v))\/(j≠k/\j0=j/\t0=t)):=by
   intro j t c g;rcases hg j t c g with ⟨rfl,rfl,rfl⟩|⟨i,v,rfl,rfl,h1,g2⟩|⟨h0,g2⟩
   ·exact ⟨_,_,_,r0,by rw[B1,f0],Or.inl ⟨rfl,rfl,Or.inl ⟨rfl,rfl⟩⟩⟩
   ·exact ⟨_,_,_,g2,by rw[B1,f1 i v h1],Or.inl ⟨rfl,rfl,Or.inr ⟨i,v,rfl,rfl,h1⟩⟩⟩
   ·exact ⟨_,_,_,g2,by rw[CT _ h0],Or.inr ⟨h0,rfl,rfl⟩⟩
  intro j t j' t' c c' g g' hj;obtain ⟨j0,t0,c0,a1,a2,a3⟩:=hold j t c g;obtain ⟨j1,t1,c1,b1,b2,b3⟩:=hold j' t' c' g';rw[a2,b2]at hj;obtain ⟨q1,q2⟩:=h.sat.inj _ _ _ _ _ _ a1 b1 hj;rcases a3 with ⟨x1,x2,x3⟩|⟨x1,x2,x3⟩<;>rcases b3 with ⟨y1,y2,y3⟩|⟨y1,y2,y3⟩
  ·refine ⟨x1.trans y1.symm,?_⟩
   rcases x3 with ⟨x4,x5⟩|⟨i,v,x4,x5,x6⟩<;>rcases y3 with ⟨y4,y5⟩|⟨i',v',y4,y5,y6⟩
   ·omega
   ·omega
   ·omega
   ·obtain rfl:v=v':=by omega
    have:=hi i i' v x6 y6
    omega
  ·exact absurd (y2.symm.trans (q1.symm.trans x2)) y1
  ·exact absurd (x2.symm.trans (q1.trans y2)) x1
  ·exact ⟨x2.symm.trans (q1.trans y2),x3.symm.trans (q2.trans y3)⟩
 ·intro j t c g hw
  rcases hg j t c g with ⟨rfl,rfl,rfl⟩|⟨i,v,rfl,rfl,h1,g2⟩|⟨h0,g2⟩
  ·rw[B1,f0];exact h.sat.low _ _ _ r0 rfl
  ·rw[B1,f1 i v h1];exact h.sat.low _ _ _ g2 (fA g2)
  ·rw[CT _ h0];exact h.sat.low _ _ _ g2 hw
theorem RX.Jv (h:RX σ tm M st) {s key s':Nat} {rows:List (Option (Nat × List (List AV)))} (e:e8 M key=some (s',.mx rows)) (hm:GY s M=false) (ht:IH s tm=false) :
  RX (C5 σ s λ t=>match t with|0=>(s',st.own.j7 s')|i+1=>σ key (i+1)) tm ((s,s',.mx (rows++[none]))::o5 key M)
   ⟨st.tm,st.own.put s' (((st.own s').q5 (σ key 0).2 none).new ⟨1,B5 σ key 0 rows++[[.nil]]⟩)⟩:=by
 have hs:=h.sat.site _ _ _ e;subst hs;have r0:=D4 e;generalize hF:(λ t=>match t with|0=>((σ key 0).1,st.own.j7 (σ key 0).1)|i+1=>σ key (i+1):Nat->Nat × Nat)=F;have F0:F 0=((σ key 0).1,st.own.j7 (σ key 0).1):=by rw[<-hF]
 have F1 : ∀ i,F (i+1)=σ key (i+1):=by intro i;rw[<-hF]
 have ko:B5 (C5 σ s F) s 0 (rows++[none])=B5 σ key 0 rows++[[.nil]]:=by
  apply List.ext_getElem?;intro j;rw[E9,B1];rcases Nat.lt_trichotomy j rows.length with hj|hj|hj
  ·rw[List.getElem?_append_left hj,List.getElem?_append_left (by rw[FA];exact hj),E9]
   congr 1;funext r
   cases r with
   | none=>rfl
   | some x=>simp only[Nat.zero_add];rw[F1]
  ·subst hj
   rw[List.getElem?_append_right (Nat.le_refl _),List.getElem?_append_right (by rw[FA];exact Nat.le_refl _),FA];simp
  ·rw[List.getElem?_eq_none (by simp;omega),List.getElem?_eq_none (by simp [FA];omega)];rfl
 have Cz : ∀ j t c',c4 M j t=some c'->G7 s c'=false/\j≠s:=by
  intro j t c' g;obtain ⟨s1,c0,g1,g2,g3⟩:=HU g;obtain ⟨g4,g5⟩:=TI hm _ _ _ g1;refine ⟨?_,g4⟩;cases t with
  | zero=>rw[g2 rfl];exact g5
  | succ i=>obtain ⟨rows,z,es,_,_,rfl⟩:=g3 i rfl;rfl
 have hg : ∀ j t c,c4 ((s,(σ key 0).1,.mx (rows++[none]))::o5 key M) j t=some c ->
   (j=s/\t=0/\c = .mx (rows++[none]))\/(j=s/\t≠0/\c4 M key t=some c)\/(j≠s/\j≠key/\c4 M j t=some c):=by
  intro j t c g;by_cases hj:j=s
  ·subst hj
   cases t with
   | zero=>rw[VO]at g;exact Or.inl ⟨rfl,rfl,(Option.some.inj g).symm⟩
   | succ t =>
    simp only[c4,e8,Nat.beq_refl,cond_true]at g;rcases Nat.lt_trichotomy t rows.length with oz|oz|oz
    ·rw[List.getElem?_append_left oz]at g
     refine Or.inr (Or.inl ⟨rfl,by omega,?_⟩);simp only[c4,e];exact g
    ·subst oz
     rw[List.getElem?_append_right (Nat.le_refl _),Nat.sub_self]at g;simp at g
    ·rw[List.getElem?_eq_none (by simp;omega)]at g;cases g
  ·rw[OM hj]at g
   obtain ⟨g1,g2⟩:=PQ g;exact Or.inr (Or.inr ⟨hj,g1,g2⟩)
 refine ⟨λ j => ?_,⟨?_,?_,?_,?_,?_⟩⟩
 ·rw[hH (Y2 ht j)];exact h.tm j
 ·intro j s1 c g
  simp only[e8]at g;cases hb:Nat.beq j s<;>simp only[hb,cond_true,cond_false]at g
  ·rw[CT _ (FM.1 hb)];exact h.sat.site _ _ _ (TG g).2
  ·simp only[Option.some.injEq,Prod.mk.injEq]at g
   rw[BS.1 hb,B1,F0,<-g.1]
 ·intro j t c g
  rcases hg j t c g with ⟨rfl,rfl,rfl⟩|⟨rfl,h0,g2⟩|⟨h0,h1,g2⟩
  ·rw[B1,F0]
   simp only[A8.g7,ko];simp [AH.j9,CF.new,AH.j7,CF.q5]
  ·obtain ⟨t',rfl⟩ : ∃ t',t=t'+1:=⟨t-1,by omega⟩
   rw[B1,F1];have hb:c.g7 (C5 σ j F) j=c.g7 σ key:=by
    obtain ⟨_,_,_,_,g3⟩:=HU g2;obtain ⟨_,_,_,_,_,rfl⟩:=g3 t' rfl;rfl
   rw[hb];exact (WU (λ he=>absurd (h.sat.inj _ _ _ _ _ _ g2 r0 he).2 (by omega)) (h.sat.old _ _ _ g2)).trans (h.sat.g7 _ _ _ g2)
  ·rw[CT _ h0,cX (Cz _ _ _ g2).1 h0]
   exact (WU (λ he=>h1 (h.sat.inj _ _ _ _ _ _ g2 r0 he).1) (h.sat.old _ _ _ g2)).trans (h.sat.g7 _ _ _ g2)
 ·intro j t c g
  rcases hg j t c g with ⟨rfl,rfl,rfl⟩|⟨rfl,h0,g2⟩|⟨h0,h1,g2⟩
  ·rw[B1,F0]
   simp [AH.j9,CF.new,AH.j7,CF.q5]
  ·obtain ⟨t',rfl⟩ : ∃ t',t=t'+1:=⟨t-1,by omega⟩
   rw[B1,F1];exact Nat.lt_of_lt_of_le (h.sat.old _ _ _ g2) (WX _)
  ·rw[CT _ h0]
   exact Nat.lt_of_lt_of_le (h.sat.old _ _ _ g2) (WX _)
 ·have hold : ∀ j t c,c4 ((s,(σ key 0).1,.mx (rows++[none]))::o5 key M) j t=some c->(j=s/\t=0) \/ ∃ j0 t0 c0,c4 M j0 t0=some c0/\C5 σ s F j t=σ j0 t0/\((j0=key/\t0=t/\j=s)\/(j0=j/\t0=t/\j≠key)):=by
   intro j t c g;rcases hg j t c g with ⟨rfl,rfl,rfl⟩|⟨rfl,h0,g2⟩|⟨h0,h1,g2⟩
   ·exact Or.inl ⟨rfl,rfl⟩
   ·obtain ⟨t',rfl⟩ : ∃ t',t=t'+1:=⟨t-1,by omega⟩
    exact Or.inr ⟨_,_,_,g2,by rw[B1,F1],Or.inl ⟨rfl,rfl,rfl⟩⟩
   ·exact Or.inr ⟨_,_,_,g2,by rw[CT _ h0],Or.inr ⟨rfl,rfl,h1⟩⟩
  have od : ∀ j0 t0 c0,c4 M j0 t0=some c0->C5 σ s F s 0≠σ j0 t0:=by
   intro j0 t0 c0 g he;rw[B1,F0]at he;have:=h.sat.old _ _ _ g
   rw[<-he]at this;exact absurd this (Nat.lt_irrefl _)
  intro j t j' t' c c' g g' hj;rcases hold j t c g with ⟨rfl,rfl⟩|⟨j0,t0,c0,a1,a2,a3⟩<;>rcases hold j' t' c' g' with ⟨rfl,rfl⟩|⟨j1,t1,c1,b1,b2,b3⟩
  ·exact ⟨rfl,rfl⟩
  ·rw[b2]at hj;exact absurd hj (od _ _ _ b1)
  ·rw[a2]at hj;exact absurd hj.symm (od _ _ _ a1)
  ·rw[a2,b2]at hj
   obtain ⟨q1,q2⟩:=h.sat.inj _ _ _ _ _ _ a1 b1 hj;rcases a3 with ⟨x1,x2,x3⟩|⟨x1,x2,x3⟩<;>rcases b3 with ⟨y1,y2,y3⟩|⟨y1,y2,y3⟩
   ·exact ⟨x3.trans y3.symm,x2.symm.trans (q2.trans y2)⟩
   ·exact absurd (y1.symm.trans (q1.symm.trans x1)) y3
   ·exact absurd (x1.symm.trans (q1.trans y1)) x3
   ·exact ⟨x1.symm.trans (q1.trans y1),x2.symm.trans (q2.trans y2)⟩
 ·intro j t c g hw
  rcases hg j t c g with ⟨rfl,rfl,rfl⟩|⟨rfl,h0,g2⟩|⟨h0,h1,g2⟩
  ·rw[B1,F0];exact h.sat.low _ _ _ r0 rfl
  ·obtain ⟨t',rfl⟩ : ∃ t',t=t'+1:=⟨t-1,by omega⟩
   rw[B1,F1];exact h.sat.low _ _ _ g2 hw
  ·rw[CT _ h0];exact h.sat.low _ _ _ g2 hw
theorem jI {k:Nat} {v:AV} (h:SF k v=false):T6 k v=false:=by
 cases v with
 | row j t z o n=>simp only[SF]at h;simp only[T6,h,cond_false]
 | ptr j t a b=>simp only[SF]at h;simp only[T6,h,cond_false]
 | _=>rfl
theorem ZS {k:Nat} : ∀ {cs:List AV},IG k cs=false->S6 k cs=false
 | [],_=>rfl
 | c::r,h=>by
  simp only[IG]at h;cases h1:SF k c<;>simp only[h1,cond_true,cond_false]at h
  ·simp only[S6,jI h1,cond_false,ZS h]
  ·cases h
theorem sI {k:Nat} : ∀ {es:List (List AV)},JW k es=false->X3 k es=false
 | [],_=>rfl
 | c::r,h=>by
  simp only[JW]at h;cases h1:IG k c<;>simp only[h1,cond_true,cond_false]at h
  ·simp only[X3,ZS h1,cond_false,sI h]
  ·cases h
theorem ZR {k:Nat} {v:AV} (h:UR k v=false):WF k v=false:=by
 cases v with
 | agg cs=>exact ZS h
 | fn p f g cs=>exact ZS h
 | row a b c d e=>exact jI (v := .row a b c d e) h
 | ptr a b c d=>exact jI (v := .ptr a b c d) h
 | _=>rfl
theorem sH {k:Nat} : ∀ {cs:List AV},Y1 k cs=false->X2 k cs=false
 | [],_=>rfl
 | c::r,h=>by
  simp only[Y1]at h;cases h1:UR k c<;>simp only[h1,cond_true,cond_false]at h
  ·simp only[X2,ZR h1,cond_false,sH h]
  ·cases h
theorem Ad3 {k:Nat} {v:AV} (h:SG k v=false):U7 k v=false:=by
 cases v with
 | j5 cs=>exact sH h
 | agg cs=>exact ZR (v := .agg cs) h
 | fn p f g cs=>exact ZR (v := .fn p f g cs) h
 | row a b c d e=>exact ZR (v := .row a b c d e) h
 | ptr a b c d=>exact ZR (v := .ptr a b c d) h
 | _=>rfl
theorem sK {k:Nat} : ∀ {tm:Tm},IH k tm=false->J6 k tm=false
 | [],_=>rfl
 | (i,v)::r,h=>by
  simp only[IH]at h;cases h1:SG k v<;>simp only[h1,cond_true,cond_false]at h
  ·simp only[J6,Ad3 h1,cond_false,sK h]
  ·cases h
theorem sJ {k:Nat} : ∀ {M:Mem},GY k M=false->IO k M=false
 | [],_=>rfl
 | (i,s,c)::r,h=>by
  simp only[GY]at h;cases h0:Nat.beq k i<;>simp only[h0,cond_true,cond_false]at h
  ·cases h1:G7 k c<;>simp only[h1,cond_true,cond_false]at h
   ·have:S5 k c=false:=by
     cases c with
     | bx cs=>exact ZS h1
     | bs z es=>exact sI h1
     | _=>rfl
    simp only[IO,this,cond_false,sJ h]
   ·cases h
  ·cases h
theorem RX.hid {M1 M2:Mem} (hm : ∀ k,e8 M1 k=e8 M2 k) (h:RX σ tm M1 st):RX σ tm M2 st:=by
 have hr : ∀ k t,c4 M1 k t=c4 M2 k t:=λ k t=>by simp only[c4,hm]
 refine ⟨h.tm,⟨λ k s c e => ?_,λ k t c e => ?_,λ k t c e => ?_,λ k t k' t' c c' e e' => ?_,λ k t c e hw => ?_⟩⟩
 ·rw[<-hm]at e;exact h.sat.site _ _ _ e
 ·rw[<-hr]at e;exact h.sat.g7 _ _ _ e
 ·rw[<-hr]at e;exact h.sat.old _ _ _ e
 ·rw[<-hr]at e e';exact h.sat.inj _ _ _ _ _ _ e e'
 ·rw[<-hr]at e;exact h.sat.low _ _ _ e hw
theorem RX.Pa (h:RX σ tm M st) {s q k2 s2 z:Nat} {es:List (List AV)} (e2:e8 M k2=some (s2,.rw z es)) (hk:s≠k2) (hm:GY s M=false) (ht:IH s tm=false) (hq:EY q=true) :
  ∃ σ',σ' s 0=(q,st.own.j7 q)/\RX σ' tm ((s,q,.mx [some (z,es)])::o5 k2 M) ⟨st.tm,st.own.put q ((st.own q).new ⟨1,[[.row (σ k2 0).1 (σ k2 0).2 z 0 es.length]]⟩)⟩:=by
 have eg:A8.flat (.mx [none]):=by
  intro i x hx;cases i with
  | zero=>simp at hx
  | succ i=>simp at hx
 have h1:=h.fw (s:=s) (q:=q) hm ht (.mx [none]) eg rfl (λ_=>hq);have Bl:e8 ((s,q,.mx [none])::M) k2=some (s2,.rw z es):=by
  simp only[e8,FM.2 (λ e=>hk e.symm),cond_false];exact e2
 have nj:IO s ((s,q,.mx [none])::M)=false:=by simp only[IO,S5,cond_false,sJ hm]
 have h2:=h1.Dk (k:=s) (s:=q) (k2:=k2) (i:=0) (rows:=[none]) (c0 := .mx [none]) (by simp [e8]) (Or.inl rfl) Bl hk (sK ht) nj (by simp);refine ⟨C5 σ s (λ t=>if t=0+1 then σ k2 0 else (q,st.own.j7 q)),?_,?_⟩
 ·rw[B1];simp
 ·have hσ:(C5 (C5 σ s λ_=>(q,st.own.j7 q)) s λ t=>if t=0+1 then (C5 σ s λ_=>(q,st.own.j7 q)) k2 0 else (C5 σ s λ_=>(q,st.own.j7 q)) s t)=C5 σ s (λ t=>if t=0+1 then σ k2 0 else (q,st.own.j7 q)):=by
   funext j t
   by_cases hj:j=s
   ·subst hj;rw[B1,B1];simp only[B1,CT _ (λ e=>hk e.symm)]
   ·rw[CT _ hj,CT _ hj,CT _ hj]
  rw[hσ]at h2;have hM:o5 k2 ((s,q,A8.mx [none])::M)=(s,q,.mx [none])::o5 k2 M:=by
   simp only[o5,FM.2 (λ e=>hk e.symm),cond_false]
  rw[hM]at h2;have ho : ∀ b b':EC,(st.own.put q ((st.own q).new b)).put q (((st.own.put q ((st.own q).new b)) q).q5 (st.own.j7 q) (some b'))=st.own.put q ((st.own q).new b'):=by
   intro b b';rw[AH.mo,AH.j9];congr 1;simp only[CF.q5,CF.new,AH.j7,CF.mk.injEq,true_and];funext t'
   by_cases oz:t'=(st.own q).j7<;>simp [oz]
  have hn:(C5 σ s λ_=>(q,st.own.j7 q)) s 0=(q,st.own.j7 q):=by rw[B1]
  have ia:(C5 σ s λ_=>(q,st.own.j7 q)) k2=σ k2:=CT _ (λ e=>hk e.symm);simp only[hn,ia]at h2;rw[ho]at h2;refine RX.hid (λ k => ?_) h2;simp only[e8];cases Nat.beq k s<;>rfl
theorem RX.Ju (h:RX σ tm M st) {s key k2 ky s' s2 z:Nat} {rows:List (Option (Nat × List (List AV)))} {es:List (List AV)} (e:e8 M key=some (s',.mx rows)) (e2:e8 M k2=some (s2,.rw z es)) (hk:key≠k2) (hm:GY s M=false) (ht:IH s tm=false) :
  RX (C5 σ s λ t=>match t with|0=>(s',st.own.j7 s')|i+1=>if i=rows.length then σ k2 0 else σ key (i+1)) tm ((s,s',.mx (rows++[some (z,es)]))::o5 key (o5 k2 (o5 ky M)))
   ⟨st.tm,st.own.put s' (((st.own s').q5 (σ key 0).2 none).new ⟨1,B5 σ key 0 rows++[[.row (σ k2 0).1 (σ k2 0).2 z 0 es.length]]⟩)⟩:=by
 have hs:=h.sat.site _ _ _ e;subst hs;have r0:=D4 e;have r2:=D4 e2;generalize hF:(λ t=>match t with|0=>((σ key 0).1,st.own.j7 (σ key 0).1)|i+1=>if i=rows.length then σ k2 0 else σ key (i+1):Nat->Nat × Nat)=F;have F0:F 0=((σ key 0).1,st.own.j7 (σ key 0).1):=by rw[<-hF]
 have F1 : ∀ i,F (i+1)=if i=rows.length then σ k2 0 else σ key (i+1):=by intro i;rw[<-hF]
 have ko:B5 (C5 σ s F) s 0 (rows++[some (z,es)])=B5 σ key 0 rows++[[.row (σ k2 0).1 (σ k2 0).2 z 0 es.length]]:=by
  apply List.ext_getElem?;intro j;rw[E9,B1];rcases Nat.lt_trichotomy j rows.length with hj|hj|hj
  ·rw[List.getElem?_append_left hj,List.getElem?_append_left (by rw[FA];exact hj),E9]
   congr 1;funext r
   cases r with
   | none=>rfl
   | some x=>simp only[Nat.zero_add];rw[F1,if_neg (by omega)]
  ·subst hj
   rw[List.getElem?_append_right (Nat.le_refl _),List.getElem?_append_right (by rw[FA];exact Nat.le_refl _),FA];simp [F1]
  ·rw[List.getElem?_eq_none (by simp;omega),List.getElem?_eq_none (by simp [FA];omega)];rfl
 have Cz : ∀ j t c',c4 M j t=some c'->G7 s c'=false/\j≠s:=by
  intro j t c' g;obtain ⟨s1,c0,g1,g2,g3⟩:=HU g;obtain ⟨g4,g5⟩:=TI hm _ _ _ g1;refine ⟨?_,g4⟩;cases t with
  | zero=>rw[g2 rfl];exact g5
  | succ i=>obtain ⟨rows,z,es,_,_,rfl⟩:=g3 i rfl;rfl
 have hg : ∀ j t c,c4 ((s,(σ key 0).1,.mx (rows++[some (z,es)]))::o5 key (o5 k2 (o5 ky M))) j t=some c ->
   (j=s/\t=0/\c = .mx (rows++[some (z,es)]))\/(j=s/\t=rows.length+1/\c = .rw z es)\/(j=s/\t≠0/\t≠rows.length+1/\c4 M key t=some c)\/(j≠s/\j≠key/\j≠k2/\c4 M j t=some c):=by
  intro j t c g;by_cases hj:j=s
  ·subst hj
   cases t with
   | zero=>rw[VO]at g;exact Or.inl ⟨rfl,rfl,(Option.some.inj g).symm⟩
   | succ t =>
    simp only[c4,e8,Nat.beq_refl,cond_true]at g;rcases Nat.lt_trichotomy t rows.length with oz|oz|oz
    ·rw[List.getElem?_append_left oz]at g
     refine Or.inr (Or.inr (Or.inl ⟨rfl,by omega,by omega,?_⟩));simp only[c4,e];exact g
    ·subst oz
     rw[List.getElem?_append_right (Nat.le_refl _),Nat.sub_self]at g;exact Or.inr (Or.inl ⟨rfl,rfl,(Option.some.inj g).symm⟩)
    ·rw[List.getElem?_eq_none (by simp;omega)]at g;cases g
  ·rw[OM hj]at g
   obtain ⟨g1,g2⟩:=PQ g;obtain ⟨g3,g4⟩:=PQ g2;obtain ⟨_,g5⟩:=PQ g4;exact Or.inr (Or.inr (Or.inr ⟨hj,g1,g3,g5⟩))
 refine ⟨λ j => ?_,⟨?_,?_,?_,?_,?_⟩⟩
 ·rw[hH (Y2 ht j)];exact h.tm j
 ·intro j s1 c g
  simp only[e8]at g;cases hb:Nat.beq j s<;>simp only[hb,cond_true,cond_false]at g
  ·rw[CT _ (FM.1 hb)];exact h.sat.site _ _ _ (TG (TG (TG g).2).2).2
  ·simp only[Option.some.injEq,Prod.mk.injEq]at g
   rw[BS.1 hb,B1,F0,<-g.1]
 ·intro j t c g
  rcases hg j t c g with ⟨rfl,rfl,rfl⟩|⟨rfl,rfl,rfl⟩|⟨rfl,h0,h1,g2⟩|⟨h0,h1,h2,g2⟩
  ·rw[B1,F0]
   simp only[A8.g7,ko];simp [AH.j9,CF.new,AH.j7,CF.q5]
  ·rw[B1,F1,if_pos rfl]
   exact (WU (λ he=>hk (h.sat.inj _ _ _ _ _ _ r2 r0 he).1.symm) (h.sat.old _ _ _ r2)).trans (h.sat.g7 _ _ _ r2)
  ·obtain ⟨t',rfl⟩ : ∃ t',t=t'+1:=⟨t-1,by omega⟩
   rw[B1,F1,if_neg (by omega)];have hb:c.g7 (C5 σ j F) j=c.g7 σ key:=by
    obtain ⟨_,_,_,_,g3⟩:=HU g2;obtain ⟨_,_,_,_,_,rfl⟩:=g3 t' rfl;rfl
   rw[hb];exact (WU (λ he=>absurd (h.sat.inj _ _ _ _ _ _ g2 r0 he).2 (by omega)) (h.sat.old _ _ _ g2)).trans (h.sat.g7 _ _ _ g2)
  ·rw[CT _ h0,cX (Cz _ _ _ g2).1 h0]
   exact (WU (λ he=>h1 (h.sat.inj _ _ _ _ _ _ g2 r0 he).1) (h.sat.old _ _ _ g2)).trans (h.sat.g7 _ _ _ g2)
 ·intro j t c g
  rcases hg j t c g with ⟨rfl,rfl,rfl⟩|⟨rfl,rfl,rfl⟩|⟨rfl,h0,h1,g2⟩|⟨h0,h1,h2,g2⟩
  ·rw[B1,F0]
   simp [AH.j9,CF.new,AH.j7,CF.q5]
  ·rw[B1,F1,if_pos rfl]
   exact Nat.lt_of_lt_of_le (h.sat.old _ _ _ r2) (WX _)
  ·obtain ⟨t',rfl⟩ : ∃ t',t=t'+1:=⟨t-1,by omega⟩
   rw[B1,F1,if_neg (by omega)];exact Nat.lt_of_lt_of_le (h.sat.old _ _ _ g2) (WX _)
  ·rw[CT _ h0]
   exact Nat.lt_of_lt_of_le (h.sat.old _ _ _ g2) (WX _)
 ·have hold : ∀ j t c,c4 ((s,(σ key 0).1,.mx (rows++[some (z,es)]))::o5 key (o5 k2 (o5 ky M))) j t=some c->(j=s/\t=0) \/ ∃ j0 t0 c0,c4 M j0 t0=some c0/\C5 σ s F j t=σ j0 t0/\((j0=k2/\t0=0/\j=s/\t=rows.length+1)\/(j0=key/\t0=t/\j=s)\/(j0=j/\t0=t/\j≠key/\j≠k2)):=by
   intro j t c g;rcases hg j t c g with ⟨rfl,rfl,rfl⟩|⟨rfl,rfl,rfl⟩|⟨rfl,h0,h1,g2⟩|⟨h0,h1,h2,g2⟩
   ·exact Or.inl ⟨rfl,rfl⟩
   ·exact Or.inr ⟨_,_,_,r2,by rw[B1,F1,if_pos rfl],Or.inl ⟨rfl,rfl,rfl,rfl⟩⟩
   ·obtain ⟨t',rfl⟩ : ∃ t',t=t'+1:=⟨t-1,by omega⟩
    exact Or.inr ⟨_,_,_,g2,by rw[B1,F1,if_neg (by omega)],Or.inr (Or.inl ⟨rfl,rfl,rfl⟩)⟩
   ·exact Or.inr ⟨_,_,_,g2,by rw[CT _ h0],Or.inr (Or.inr ⟨rfl,rfl,h1,h2⟩)⟩
  have od : ∀ j0 t0 c0,c4 M j0 t0=some c0->C5 σ s F s 0≠σ j0 t0:=by
   intro j0 t0 c0 g he;rw[B1,F0]at he;have:=h.sat.old _ _ _ g
   rw[<-he]at this;exact absurd this (Nat.lt_irrefl _)
  intro j t j' t' c c' g g' hj;rcases hold j t c g with ⟨rfl,rfl⟩|⟨j0,t0,c0,a1,a2,a3⟩<;>rcases hold j' t' c' g' with ⟨rfl,rfl⟩|⟨j1,t1,c1,b1,b2,b3⟩
  ·exact ⟨rfl,rfl⟩
  ·rw[b2]at hj;exact absurd hj (od _ _ _ b1)
  ·rw[a2]at hj;exact absurd hj.symm (od _ _ _ a1)
  ·rw[a2,b2]at hj
   obtain ⟨q1,q2⟩:=h.sat.inj _ _ _ _ _ _ a1 b1 hj;rcases a3 with ⟨x1,x2,x3,x4⟩|⟨x1,x2,x3⟩|⟨x1,x2,x3,x4⟩<;>rcases b3 with ⟨y1,y2,y3,y4⟩|⟨y1,y2,y3⟩|⟨y1,y2,y3,y4⟩
   ·exact ⟨x3.trans y3.symm,x4.trans y4.symm⟩
   ·exact absurd (y1.symm.trans (q1.symm.trans x1)) hk
   ·exact absurd (y1.symm.trans (q1.symm.trans x1)) y4
   ·exact absurd (x1.symm.trans (q1.trans y1)) hk
   ·exact ⟨x3.trans y3.symm,x2.symm.trans (q2.trans y2)⟩
   ·exact absurd (y1.symm.trans (q1.symm.trans x1)) y3
   ·exact absurd (x1.symm.trans (q1.trans y1)) x4
   ·exact absurd (x1.symm.trans (q1.trans y1)) x3
   ·exact ⟨x1.symm.trans (q1.trans y1),x2.symm.trans (q2.trans y2)⟩
 ·intro j t c g hw
  rcases hg j t c g with ⟨rfl,rfl,rfl⟩|⟨rfl,rfl,rfl⟩|⟨rfl,h0,h1,g2⟩|⟨h0,h1,h2,g2⟩
  ·rw[B1,F0];exact h.sat.low _ _ _ r0 rfl
  ·rw[B1,F1,if_pos rfl];exact h.sat.low _ _ _ r2 rfl
  ·obtain ⟨t',rfl⟩ : ∃ t',t=t'+1:=⟨t-1,by omega⟩
   rw[B1,F1,if_neg (by omega)];exact h.sat.low _ _ _ g2 hw
  ·rw[CT _ h0];exact h.sat.low _ _ _ g2 hw
theorem G9 (k:IntKind) (n:Int):BI σ (.int k n) = .int k n:=rfl
theorem G8 (b:Bool):BI σ (.bool b) = .bool b:=rfl
theorem II (l:Bool) (es:List (List AV)):BI σ (.sl l es) = .sl l es:=rfl
theorem DH (k t z o n:Nat):BI σ (.row k t z o n) = .row (σ k t).1 (σ k t).2 z o n:=rfl
theorem EN (k t i j:Nat):BI σ (.ptr k t i j) = .ptr (σ k t).1 (σ k t).2 i j:=rfl
theorem JI (cs:List AV):BI σ (.u5 cs) = .u5 cs:=rfl
theorem FK:BI σ .nil = .nil:=rfl
theorem HY (cs:List AV):BI σ (.agg cs) = .agg (cs.map (A9 σ)):=rfl
theorem Akq (v:Value):BI σ (.dh v) = .dh v:=rfl
theorem bI (p:Bool) (f g:Nat) (cs:List AV):BI σ (.fn p f g cs) = .fn p f g (cs.map (A9 σ)):=rfl
theorem JJ (cs:List AV):BI σ (.j5 cs) = .j5 (cs.map (BV σ)):=rfl
def CE.res (own:AH):CE->AV × AH
 | .val v=>(v,own)
 | .new s b f=>(f (own.j7 s),own.put s ((own s).new b))
 | .zt s b f=>(f (own.j7 s),own.put s ((own s).new b))
 | .eb v o=>(v,o)
 | .q5 s x=>(.j5 [],own.put s x)
 | .yd s x v=>(v,own.put s x)
theorem jA (st:St) (d:Option Nat) (E:CE):st.app d E=⟨(st.dst d (E.res st.own).1).tm,(E.res st.own).2⟩:=by
 cases E<;>cases d<;>rfl
def BX (L:Lib) (tm:Tm) (c7:List Nat) (K:AV->Mem->Prop) (op:D6) (st:St):Prop :=
 ∃ E σ' v M',(∀ c,g8 (C4 L c) c7 st.ev st.own op=some E)/\K v M'/\(E.res st.own).1=BI σ' v/\RX σ' tm M' ⟨st.tm,(E.res st.own).2⟩
theorem BX.val {L:Lib} {c7:List Nat} {K:AV->Mem->Prop} {op:D6} (h:RX σ tm M st) (v:AV) (he : ∀ c,g8 (C4 L c) c7 st.ev st.own op=some (.val (BI σ v))) (hk:K v M):BX L tm c7 K op st :=
 ⟨_,σ,v,M,he,hk,rfl,h⟩
variable {L:Lib} {c7:List Nat} {K:AV->Mem->Prop}
theorem Adp {x:AQ} (hr:RX σ tm M st) (h:XE L tm M c7 K (.b7 x)):BX L tm c7 K (.b7 x) st:=by
 simp only[XE]at h;obtain ⟨h1,h2⟩:=eG h;exact BX.val hr _ (λ C=>by simp only[g8,hr.ev rfl h1]) h2
theorem Adv {s z:Nat} (hr:RX σ tm M st) (h:XE L tm M c7 K (.w4 s z)):BX L tm c7 K (.w4 s z) st:=by
 simp only[XE]at h;cases gb:EY s<;>simp only[gb,cond_true,cond_false]at h;obtain ⟨k,h1,h2,h3⟩:=HK h;refine ⟨_,_,_,_,λ C=>rfl,h3,?_,hr.fw h1 h2 (.rw z []) trivial rfl (λ_=>gb)⟩;simp only[CE.res,DH,EN,B1]
theorem Adq {c a b:AQ} (hr:RX σ tm M st) (h:XE L tm M c7 K (.pick c a b)):BX L tm c7 K (.pick c a b) st:=by
 simp only[XE]at h;split at h
 ·rename_i e
  obtain ⟨h1,h2⟩:=eG h;exact BX.val hr _ (λ C=>by simp only[g8,hr.ev e (by intro e;cases e),hr.ev rfl h1,G9,G8,II,DH,EN,JI,FK,HY,JJ]) h2
 ·rename_i e
  obtain ⟨h1,h2⟩:=eG h;exact BX.val hr _ (λ C=>by simp only[g8,hr.ev e (by intro e;cases e),hr.ev rfl h1,G9,G8,II,DH,EN,JI,FK,HY,JJ]) h2
 ·exact h.elim
theorem Aik {op:BinOp} {k k':IntKind} {a b:Int} {v:AV} (h:DM op k a k' b=some v):BI σ v=v:=by
 cases op<;>simp only[DM]at h<;>split at h<;>first|(obtain rfl:=Option.some.inj h;rfl)|cases h
theorem AiR {k k':IntKind} (h:kq k k'=true):k=k':=by simpa [kq] using h
theorem AdH {op:BinOp} {k k':IntKind} {a b:Int} {K:AV->Prop} (h:jC op k a k' b K) : ∃ v,DM op k a k' b=some v/\K v:=by
 have key : ∀ (p q:Prop) [Decidable p] (A B:Prop) (c:Bool),(¬ p->q)->AF p q A B->(p/\A)\/(¬ p/\B):=by
  intro p q _ A B _ hq hc;by_cases hp:p
  ·exact Or.inl ⟨hp,hc.1 hp⟩
  ·exact Or.inr ⟨hp,hc.2 (hq hp)⟩
 cases op;all_goals try (exact h)
 all_goals (
  simp only[jC]at h;cases hk:kq k k'<;>simp only[hk,cond_true,cond_false]at h;obtain rfl:=AiR hk;simp only[DM,if_true])
 ·rcases key (a=b) _ _ _ true (λ e=>e) h with ⟨h1,h2⟩|⟨h1,h2⟩
  ·exact ⟨_,rfl,by rw[show (a == b)=true by simpa using h1];exact h2⟩
  ·exact ⟨_,rfl,by rw[show (a == b)=false by simpa using h1];exact h2⟩
 ·rcases key (a≠b) _ _ _ true (λ e=>by omega) h with ⟨h1,h2⟩|⟨h1,h2⟩
  ·exact ⟨_,rfl,by rw[show (a != b)=true by simpa using h1];exact h2⟩
  ·exact ⟨_,rfl,by rw[show (a != b)=false by simpa using h1];exact h2⟩
 ·rcases key (a<b) _ _ _ true (λ e=>by omega) h with ⟨h1,h2⟩|⟨h1,h2⟩
  ·exact ⟨_,rfl,by simpa [h1] using h2⟩
  ·exact ⟨_,rfl,by simpa [h1] using h2⟩
 ·rcases key (a<=b) _ _ _ true (λ e=>by omega) h with ⟨h1,h2⟩|⟨h1,h2⟩
  ·exact ⟨_,rfl,by simpa [h1] using h2⟩
  ·exact ⟨_,rfl,by simpa [h1] using h2⟩
 ·rcases key (b<a) _ _ _ true (λ e=>by omega) h with ⟨h1,h2⟩|⟨h1,h2⟩
  ·exact ⟨_,rfl,by simpa [h1] using h2⟩
  ·exact ⟨_,rfl,by simpa [h1] using h2⟩
 ·rcases key (b<=a) _ _ _ true (λ e=>by omega) h with ⟨h1,h2⟩|⟨h1,h2⟩
  ·exact ⟨_,rfl,by simpa [h1] using h2⟩
  ·exact ⟨_,rfl,by simpa [h1] using h2⟩
theorem Yn {op:BinOp} {x y:AQ} (hr:RX σ tm M st) (h:XE L tm M c7 K (.bin op x y)):BX L tm c7 K (.bin op x y) st:=by
 simp only[XE]at h;split at h
 ·rename_i k a k' b e1 e2
  obtain ⟨v,hv,hk⟩:=AdH h;exact BX.val hr v (λ C=>by
   simp only[g8,hr.ev e1 (by intro e;cases e),hr.ev e2 (by intro e;cases e),G9,G8,II,DH,EN,JI,FK,HY,JJ,hv,Option.map_some];exact congrArg some (congrArg CE.val (Aik (σ:=σ) hv).symm)) hk
 ·exact h.elim
theorem Ym {ne:Bool} {x y:AQ} (hr:RX σ tm M st) (h:XE L tm M c7 K (.beq ne x y)):BX L tm c7 K (.beq ne x y) st:=by
 simp only[XE]at h;split at h
 ·rename_i a b e1 e2
  rw[UB]at h;exact BX.val hr _ (λ C=>by
   simp only[g8,hr.ev e1 (by intro e;cases e),hr.ev e2 (by intro e;cases e),G9,G8,II,DH,EN,JI,FK,HY,JJ];cases ne<;>rfl) h
 ·exact h.elim
theorem mD : ∀ {cs:List AV} {a:List Int},H8 cs=some a->cs.map (A9 σ)=cs
 | [],_,_=>rfl
 | c::r,a,h=>by
  cases c with
  | int k n =>
   cases k<;>simp only[H8]at h<;>first|cases h|skip
   cases hr:H8 r with
   | none=>rw[hr]at h;cases h
   | some b=>rw[List.map_cons,mD hr];rfl
  | _=>simp only[H8]at h;cases h
theorem Zu {ne:Bool} {n:Nat} {x y:AQ} (hr:RX σ tm M st) (h:XE L tm M c7 K (.sf ne n x y)):BX L tm c7 K (.sf ne n x y) st:=by
 simp only[XE]at h;split at h
 ·rename_i cs ds e1 e2
  obtain ⟨a,b,h1,h2,h3,h4,h⟩:=h;rw[UB]at h;exact BX.val hr _ (λ C=>by
   simp only[g8,hr.ev e1 (by intro e;cases e),hr.ev e2 (by intro e;cases e),HY,mD h1,mD h2,h1,h2];rw[if_pos ⟨h3,h4⟩];cases ne<;>rfl) h
 ·exact h.elim
theorem Adu {op:UnOp} {x:AQ} (hr:RX σ tm M st) (h:XE L tm M c7 K (.un op x)):BX L tm c7 K (.un op x) st:=by
 simp only[XE]at h;split at h
 ·rename_i k n e1
  obtain ⟨v,hv,hk⟩:=h;refine BX.val hr v (λ C => ?_) hk;simp only[g8,hr.ev e1 (by intro e;cases e),G9,G8,II,DH,EN,JI,FK,HY,JJ,hv,Option.map_some];cases op<;>simp only[VZ,Option.some.injEq,reduceCtorEq]at hv<;>subst hv<;>rfl
 ·rename_i b e1
  split at h
  ·rw[UB]at h
   exact BX.val hr _ (λ C=>by simp only[g8,hr.ev e1 (by intro e;cases e),G9,G8,II,DH,EN,JI,FK,HY,JJ,VZ,Option.map_some]) h
  ·exact h.elim
 ·exact h.elim
theorem Adb {k:IntKind} {x:AQ} (hr:RX σ tm M st) (h:XE L tm M c7 K (.conv k x)):BX L tm c7 K (.conv k x) st:=by
 simp only[XE]at h;split at h
 ·rename_i k' n e1
  exact BX.val hr _ (λ C=>by simp only[g8,hr.ev e1 (by intro e;cases e),G9,G8,II,DH,EN,JI,FK,HY,JJ]) h
 ·exact h.elim
theorem Yo {s:Nat} {x:AQ} (hr:RX σ tm M st) (h:XE L tm M c7 K (.box s x)):BX L tm c7 K (.box s x) st:=by
 simp only[XE]at h;obtain ⟨h0,cs,hc,h⟩:=eF h;obtain ⟨k,h1,h2,h3⟩:=HK h;refine ⟨.new s (A8.g7 σ k (.bx cs)) (λ t => .ptr s t 0 0),_,_,_,λ C => ?_,h3,?_,hr.fw h1 h2 (.bx cs) trivial (Qa (wL h2 x) hc) (λ h=>nomatch h)⟩
 ·simp only[g8,hr.ev rfl h0,S4 hc,List.length_map,A8.g7]
 ·simp only[CE.res,DH,EN,B1]
theorem Yh {s:Nat} {z:List AV} (hr:RX σ tm M st) (h:XE L tm M c7 K (.alloc s z)):BX L tm c7 K (.alloc s z) st:=by
 simp only[XE]at h;cases hd:D8 z<;>simp only[hd,cond_true,cond_false]at h;obtain ⟨k,h1,h2,h3⟩:=HK h;refine ⟨.new s (A8.g7 σ k (.bx z)) (λ t => .ptr s t 0 0),_,_,_,λ C => ?_,h3,?_,hr.fw h1 h2 (.bx z) trivial (jX hd) (λ h=>nomatch h)⟩
 ·simp only[g8,A8.g7,IU hd]
 ·simp only[CE.res,DH,EN,B1]
theorem fQ {cs ds:List AV} {off n:Nat} (h:part cs off n=some ds):part (cs.map (A9 σ)) off n=some (ds.map (A9 σ)):=by
 simp only[part]at h ⊢;split at h
 ·rename_i hl
  rw[if_pos (by simpa using hl)];obtain rfl:=Option.some.inj h;rw[List.map_take,List.map_drop]
 ·cases h
theorem wN {v:AV} {K:AV->Prop} (h:fF v K):v ≠ .any/\BI σ v=A9 σ v/\K v:=by
 cases v<;>simp only[fF]at h<;>first|exact h.elim|exact ⟨(by intro e;cases e),rfl,h⟩
theorem UK (σ:FR) {agg:Bool} {ds:List AV} {K:AV->Prop} (h:qp agg ds K) : ∃ v,KD agg (ds.map (A9 σ))=some (BI σ v)/\K v:=by
 cases agg
 ·simp only[qp]at h
  split at h
  ·rename_i c
   obtain ⟨_,h1,h2⟩:=wN (σ:=σ) h;exact ⟨c,by rw[h1];rfl,h2⟩
  ·exact h.elim
 ·exact ⟨.agg ds,rfl,h⟩
theorem Ta {cs vs:List AV} {j:Nat}:(splice cs j vs).map (A9 σ)=splice (cs.map (A9 σ)) j (vs.map (A9 σ)):=by
 simp only[splice,List.map_append,List.map_take,List.map_drop,List.length_map]
theorem wU (hr:RX σ tm M st) : ∀ {ps:List (Nat × Nat × AQ)} {cells:List AV} {K:List AV->Prop},lN tm ps cells K -> ∃ cs,fill (cells.map (A9 σ)) (ps.map λ p=>(p.1,p.2.1,st.ev p.2.2))=some (cs.map (A9 σ))/\K cs
 | [],cells,K,h=>⟨cells,rfl,h⟩
 | p::r,cells,K,h=>by
  obtain ⟨h0,vs,hc,h⟩:=eF (show fC (ex tm p.2.2) λ vs=>bif Nat.beq vs.length p.2.1 then bif Nat.ble (p.1+p.2.1) cells.length then fL (splice cells p.1 vs) λ cells=>lN tm r cells K else False else False from h);cases hz:Nat.beq vs.length p.2.1<;>simp only[hz,cond_true,cond_false]at h;have hl:Nat.ble (p.1+p.2.1) cells.length=true:=by
   cases hl:Nat.ble (p.1+p.2.1) cells.length
   ·rw[hl]at h;exact h.elim
   ·rfl
  rw[hl]at h;simp only[cond_true,G5]at h;obtain ⟨cs,h1,h2⟩:=wU hr h;refine ⟨cs,?_,h2⟩;simp only[List.map_cons,fill,hr.ev rfl h0,S4 hc,List.length_map];rw[if_pos ⟨BS.1 hz,Nat.le_of_ble_eq_true hl⟩,<-Ta];exact h1
theorem Yq {z:List AV} {ps:List (Nat × Nat × AQ)} (hr:RX σ tm M st) (h:XE L tm M c7 K (.build z ps)):BX L tm c7 K (.build z ps) st:=by
 simp only[XE]at h;cases hd:D8 z<;>simp only[hd,cond_true,cond_false]at h;obtain ⟨cs,h1,h2⟩:=wU hr h;refine BX.val hr (.agg cs) (λ C => ?_) h2;rw[IU hd]at h1;simp only[g8,h1];rfl
theorem wK : ∀ l:List AQ,VH tm l=l.map (ex tm)
 | []=>rfl
 | x::r=>by rw[VH,wK r];rfl
theorem tT : ∀ {es:List (List AV)},Z1 es=true -> ∀ e∈es,D8 e=true
 | e0::r,h,e,he=>by
  simp only[Z1]at h;cases h1:D8 e0<;>simp only[h1,cond_true,cond_false]at h
  ·cases h
  ·rcases List.mem_cons.1 he with rfl|he
   ·exact h1
   ·exact tT h e he
theorem AeJ {es:List (List AV)} (h : ∀ e∈es,D8 e=true):(es.map λ cs=>cs.map (A9 σ))=es:=by
 conv=>rhs;rw[<-List.map_id es]
 exact List.map_congr_left λ e he=>IU (h e he)
theorem mN {es:List (List AV)} {K:Nat->Prop} (h:aO es K):K es.length:=by
 unfold aO at h;split at h<;>exact h
theorem sD (hr:RX σ tm M st) {z:Nat} : ∀ {l:List AQ} {K:List (List AV)->Prop},jF tm z l K -> ∃ es,l.mapM (λ x=>cellsOf (st.ev x))=some (es.map λ cs=>cs.map (A9 σ))/\(∀ e∈es,e.length=z)/\(∀ k,IH k tm=false->JW k es=false)/\K es
 | [],K,h=>⟨[],rfl,(λ e he=>by cases he),λ_ _=>rfl,h⟩
 | x::r,K,h=>by
  obtain ⟨h0,cs,hc,h⟩:=eF (show fC (ex tm x) λ cs=>bif Nat.beq cs.length z then jF tm z r λ es=>K (cs::es) else False from h);cases hz:Nat.beq cs.length z<;>simp only[hz,cond_true,cond_false]at h;obtain ⟨es,h1,h2,h4,h3⟩:=sD hr h;refine ⟨cs::es,?_,λ e he => ?_,λ k hk => ?_,h3⟩
  ·rw[List.mapM_cons,h1,hr.ev rfl h0,S4 hc];rfl
  ·rcases List.mem_cons.1 he with rfl|he
   ·exact BS.1 hz
   ·exact h2 e he
  ·simp only[JW,Qa (wL hk x) hc,cond_false,h4 k hk]
theorem evL (hr:RX σ tm M st) {xs:List AQ} (h : ∀ v∈VH tm xs,v ≠ .any):xs.map st.ev=(VH tm xs).map (BI σ):=by
 rw[wK]at h ⊢;rw[List.map_map];exact List.map_congr_left λ x hx=>hr.ev rfl (h _ (List.mem_map_of_mem hx))
theorem Yp {s z:Nat} {ps:List AQ} (hr:RX σ tm M st) (h:XE L tm M c7 K (.e9 s z ps)):BX L tm c7 K (.e9 s z ps) st:=by
 simp only[XE]at h;cases gb:EY s<;>simp only[gb,cond_true,cond_false]at h;obtain ⟨es,g1,g2,g3,h⟩:=sD hr h;obtain ⟨k,h1,h2,h3⟩:=HK (mN h);have key : ∀ c:A8,c.flat->G7 k c=false->c.g7 σ k=⟨z,es.map λ cs=>cs.map (A9 σ)⟩->K (.row k 0 z 0 es.length) ((k,s,c)::M)->BX L tm c7 K (.e9 s z ps) st:=by
  intro c hf hc hb hk;refine ⟨.new s (c.g7 σ k) (λ t => .row s t z 0 es.length),_,_,_,λ C => ?_,hk,?_,hr.fw h1 h2 c hf hc (λ_=>gb)⟩
  ·simp only[g8,g1,hb]
   rw[if_pos (λ e he=>by obtain ⟨e',jr,rfl⟩:=List.mem_map.1 he;simpa using g2 e' jr)];simp only[List.length_map]
  ·simp only[CE.res,DH,B1]
 cases hd:Z1 es<;>simp only[hd,cond_true,cond_false]at h3
 ·exact key (.bs z es) trivial (g3 k h2) rfl h3
 ·exact key (.rw z es) trivial rfl (by simp only[A8.g7];rw[AeJ (tT hd)]) h3
theorem Add {x:AQ} {off:Nat} (hr:RX σ tm M st) (h:XE L tm M c7 K (.a7 x off)):BX L tm c7 K (.a7 x off) st:=by
 simp only[XE]at h;split at h
 ·rename_i key t i j e
  exact BX.val hr _ (λ C=>by simp only[g8,hr.ev e (by intro e;cases e),G9,G8,II,DH,EN,JI,FK,HY,JJ]) h
 ·rename_i cs e
  rw[G5]at h;exact BX.val hr _ (λ C=>by simp only[g8,hr.ev e (by intro e;cases e),G9,G8,II,DH,EN,JI,FK,HY,JJ]) h
 ·exact h.elim
theorem Ade {x:AQ} {off n:Nat} {agg:Bool} (hr:RX σ tm M st) (h:XE L tm M c7 K (.om x off n agg)):BX L tm c7 K (.om x off n agg) st:=by
 simp only[XE]at h;split at h
 ·rename_i cs e
  split at h
  ·rename_i ds hp
   rw[G5]at h;obtain ⟨v,h1,h2⟩:=UK σ h;exact BX.val hr v (λ C=>by simp only[g8,hr.ev e (by intro e;cases e),HY,fQ hp,h1,Option.map_some]) h2
  ·exact h.elim
 ·exact h.elim
theorem Adg {arr:Option Nat} {z:Nat} {x i:AQ} (hr:RX σ tm M st) (h:XE L tm M c7 K (.a5 arr z x i)):BX L tm c7 K (.a5 arr z x i) st:=by
 simp only[XE]at h;split at h
 ·rename_i kd n e1
  split at h
  ·rename_i len key t i' j e2
   obtain ⟨h1,h2⟩:=h;exact BX.val hr _ (λ C=>by simp only[g8,hr.ev e1 (by intro e;cases e),hr.ev e2 (by intro e;cases e),G9,G8,II,DH,EN,JI,FK,HY,JJ];rw[if_pos h1]) h2
  ·rename_i len cs e2
   obtain ⟨h1,h2⟩:=h;rw[G5]at h2;exact BX.val hr _ (λ C=>by simp only[g8,hr.ev e1 (by intro e;cases e),hr.ev e2 (by intro e;cases e),G9,G8,II,DH,EN,JI,FK,HY,JJ];rw[if_pos h1]) h2
  ·rename_i key t z' off len e2
   cases hz:Nat.beq z' z<;>simp only[hz,cond_true,cond_false]at h;obtain ⟨h1,h2⟩:=h;exact BX.val hr _ (λ C=>by simp only[g8,hr.ev e1 (by intro e;cases e),hr.ev e2 (by intro e;cases e),G9,G8,II,DH,EN,JI,FK,HY,JJ];rw[if_pos ⟨h1.1,h1.2,BS.1 hz⟩]) h2
  ·rename_i q es e2
   obtain ⟨h1,cs,h2,h3,h4⟩:=h;exact BX.val hr _ (λ C=>by simp only[g8,hr.ev e1 (by intro e;cases e),hr.ev e2 (by intro e;cases e),G9,G8,II,DH,EN,JI,FK,HY,JJ,h2];rw[if_pos h1,if_pos h3]) h4
  ·exact h.elim
 ·exact h.elim
theorem YW {s:Nat} {own:AH} : ∀ {c7:List Nat},VR s c7=true->own.m8 c7 s=own s
 | [],_=>rfl
 | b::r,h=>by
  have hm:UG s (b::r)=false:=by simpa [VR] using h
  have : ∀ l:List Nat,UG s l=false->own.m8 l s=own s:=by
   intro l;induction l with
   | nil=>intro _;rfl
   | cons b r ih =>
    intro h;simp only[UG]at h;cases hb:Nat.beq s b<;>simp only[hb,cond_true,cond_false]at h
    ·simp only[AH.m8]
     rw[if_neg (FM.1 hb)];exact ih h
    ·cases h
  exact this _ hm
theorem nI {s:Nat} {own:AH} (hs:EY s=true) : ∀ {c7:List Nat},W2 c7=true->own.m8 c7 s=own s
 | [],_=>rfl
 | b::r,h=>by
  simp only[W2]at h;cases hb:EY b<;>simp only[hb,cond_true,cond_false]at h
  ·have m5:s≠b:=λ e=>by rw[e,hb]at hs;cases hs
   show (if s=b then _ else own.m8 r s)=own s;rw[if_neg m5];exact nI hs h
  ·cases h
theorem Adi {agg:Bool} {n:Nat} {x:AQ} (hr:RX σ tm M st) (h:XE L tm M c7 K (.ld agg n x)):BX L tm c7 K (.ld agg n x) st:=by
 simp only[XE]at h;split at h
 ·rename_i key t i j e
  split at h
  ·rename_i s c hm
   have hs:=hr.sat.site _ _ _ hm;split at h
   ·cases hb:VR s c7<;>simp only[hb,cond_true,cond_false]at h
    have af:=hr.sat.g7 _ _ _ (D4 hm);rw[hs]at af;split at h
    ·rename_i cs
     cases hi:Nat.beq i 0<;>simp only[hi,cond_true,cond_false]at h;obtain rfl:=BS.1 hi;split at h
     ·rename_i ds hp
      rw[G5]at h;obtain ⟨v,h1,h2⟩:=UK σ h;exact BX.val hr v (λ C=>by
       simp only[g8,hr.ev e (by intro e;cases e),EN,AH.qm,AH.get,hs];rw[YW hb,af];simp only[A8.g7,List.getElem?_cons_zero,fQ hp,h1,Option.map_some]) h2
     ·exact h.elim
    ·rename_i z es
     obtain ⟨cs,ds,g1,g2,h⟩:=h;rw[G5]at h;cases hd:D8 ds<;>simp only[hd,cond_true,cond_false]at h;obtain ⟨v,h1,h2⟩:=UK σ h;rw[IU hd]at h1;exact BX.val hr v (λ C=>by
      simp only[g8,hr.ev e (by intro e;cases e),EN,AH.qm,AH.get,hs];rw[YW hb,af];simp only[A8.g7,g1,g2,h1,Option.map_some]) h2
    ·rename_i z es
     split at h
     ·rename_i cs g1
      split at h
      ·rename_i ds hp
       rw[G5]at h;obtain ⟨v,h1,h2⟩:=UK σ h;exact BX.val hr v (λ C=>by
        simp only[g8,hr.ev e (by intro e;cases e),EN,AH.qm,AH.get,hs];rw[YW hb,af];simp only[A8.g7,List.getElem?_map,g1,Option.map_some,fQ hp,h1]) h2
      ·exact h.elim
     ·exact h.elim
    ·rename_i rows
     cases hj:Nat.beq j 0<;>simp only[hj,cond_true,cond_false]at h;cases hn:Nat.beq n 1<;>simp only[hn,cond_true,cond_false]at h;obtain rfl:=BS.1 hj;obtain rfl:=BS.1 hn;obtain ⟨r,g1,h⟩:=h;have fin : ∀ c:AV,(B5 σ key 0 rows)[i]? = some [A9 σ c]->qp agg [c] (λ v=>K v M)->BX L tm c7 K (.ld agg 1 x) st:=by
      intro c hc h;obtain ⟨v,h1,h2⟩:=UK σ h;have hp:part [A9 σ c] 0 1=some [A9 σ c]:=by simp [part]
      exact BX.val hr v (λ C=>by
       simp only[g8,hr.ev e (by intro e;cases e),EN,AH.qm,AH.get,hs];rw[YW hb,af];simp only[A8.g7,hc,hp];simp only[List.map_cons,List.map_nil]at h1;simp only[h1,Option.map_some]) h2
     split at h
     ·rename_i z es
      exact fin _ (by rw[E9,g1];simp [A9]) h
     ·exact fin _ (by rw[E9,g1];simp [A9]) h
    ·exact h.elim
    ·exact h.elim
   ·rename_i i'
    split at h
    ·rename_i rows
     obtain ⟨z,es,g0,cs,ds,g1,g2,h⟩:=h;rw[G5]at h;cases hd:D8 ds<;>simp only[hd,cond_true,cond_false]at h;obtain ⟨v,h1,h2⟩:=UK σ h;rw[IU hd]at h1;have af:=hr.sat.g7 key (i'+1) (.rw z es) (by simp [c4,hm,g0]);exact BX.val hr v (λ C=>by
      simp only[g8,hr.ev e (by intro e;cases e),EN,AH.qm,AH.get,AH.m8];rw[af];simp only[A8.g7,g1,g2,h1,Option.map_some]) h2
    ·rename_i rows b r
     cases hb:W2 (b::r)<;>simp only[hb,cond_true,cond_false]at h;obtain ⟨z,es,g0,cs,ds,g1,g2,h⟩:=h;rw[G5]at h;cases hd:D8 ds<;>simp only[hd,cond_true,cond_false]at h;obtain ⟨v,h1,h2⟩:=UK σ h;rw[IU hd]at h1;have g':c4 M key (i'+1)=some (.rw z es):=by simp [c4,hm,g0]
     have af:=hr.sat.g7 key (i'+1) (.rw z es) g';have gb:=hr.sat.low key (i'+1) _ g' rfl;exact BX.val hr v (λ C=>by
      simp only[g8,hr.ev e (by intro e;cases e),EN,AH.qm,AH.get];rw[nI gb hb,af];simp only[A8.g7,g1,g2,h1,Option.map_some]) h2
    ·exact h.elim
  ·exact h.elim
 ·rename_i cs e
  split at h
  ·rename_i ds hp
   rw[G5]at h;cases hd:D8 ds<;>simp only[hd,cond_true,cond_false]at h;obtain ⟨v,h1,h2⟩:=UK σ h;rw[IU hd]at h1;exact BX.val hr v (λ C=>by simp only[g8,hr.ev e (by intro e;cases e),JI,hp,h1,Option.map_some]) h2
  ·exact h.elim
 ·exact h.elim
theorem Adj {agg:Bool} {n:Nat} {x:AQ} (hr:RX σ tm M st) (h:XE L tm M c7 K (.uq agg n x)):BX L tm c7 K (.uq agg n x) st:=by
 simp only[XE]at h;split at h
 ·rename_i cs e
  split at h
  ·rename_i ds hp
   rw[G5]at h;cases hd:D8 ds<;>simp only[hd,cond_true,cond_false]at h;obtain ⟨v,h1,h2⟩:=UK σ h;rw[IU hd]at h1;exact BX.val hr v (λ C=>by simp only[g8,hr.ev e (by intro e;cases e),JI,hp,h1,Option.map_some]) h2
  ·exact h.elim
 ·exact h.elim
theorem rJ {n:Nat} {x v:AQ} (hr:RX σ tm M st) (h:XE L tm M c7 K (.st n x v)):BX L tm c7 K (.st n x v) st:=by
 simp only[XE,pL]at h;split at h
 ·rename_i key t i j e
  obtain ⟨h0,vs,hc,h5⟩:=eF h;clear h;cases hn:Nat.beq vs.length n<;>simp only[hn,cond_true,cond_false]at h5;have ry:=BS.1 hn;split at h5
  ·rename_i s c hm
   have hs:=hr.sat.site _ _ _ hm;split at h5
   ·have af:=hr.sat.g7 _ _ _ (D4 hm)
    rw[hs]at af;split at h5
    ·rename_i cs
     cases hi:Nat.beq i 0<;>simp only[hi,cond_true,cond_false]at h5;obtain rfl:=BS.1 hi;have hl:Nat.ble (j+vs.length) cs.length=true:=by
      cases hl:Nat.ble (j+vs.length) cs.length
      ·rw[hl]at h5;exact h5.elim
      ·rfl
     rw[hl]at h5;simp only[cond_true,G5]at h5;refine ⟨.eb (.j5 []) (st.own.put s ((st.own s).q5 (σ key 0).2 (some (A8.g7 σ key (.bx (splice cs j vs)))))),σ,_,_,λ C => ?_,h5,rfl,hr.Pf hm trivial _ trivial (λ h=>nomatch h)⟩;simp only[g8,hr.ev e (by intro e;cases e),EN,hr.ev rfl h0,S4 hc,List.length_map];rw[if_pos ry];simp only[AH.mq,AH.get,hs,af,A8.g7,List.getElem?_cons_zero,List.length_map];rw[if_pos (Nat.le_of_ble_eq_true hl)];simp only[Option.map_some,List.set_cons_zero,Ta];have:(splice cs j vs).length=cs.length:=by
      have:=Nat.le_of_ble_eq_true hl
      simp only[splice,List.length_append,List.length_take,List.length_drop];omega
     rw[this]
    ·rename_i z es
     cases hd:D8 vs<;>simp only[hd,cond_true,cond_false]at h5;obtain ⟨cs,g1,g2,h5⟩:=h5;refine ⟨.eb (.j5 []) (st.own.put s ((st.own s).q5 (σ key 0).2 (some (A8.g7 σ key (.rw z (es.set i (splice cs j vs))))))),σ,_,_,λ C => ?_,h5,rfl,hr.Pf hm trivial _ trivial (λ_=>rfl)⟩;simp only[g8,hr.ev e (by intro e;cases e),EN,hr.ev rfl h0,S4 hc,IU hd];rw[if_pos ry];simp only[AH.mq,AH.get,hs,af,A8.g7,g1];rw[if_pos g2];rfl
    ·exact h5.elim
    ·rename_i rows
     split at h5
     ·rename_i y7 z m
      cases fq:Nat.beq key y7<;>simp only[fq,cond_true,cond_false]at h5;cases bu:J6 key tm<;>simp only[bu,cond_true,cond_false]at h5;cases nj:IO key M<;>simp only[nj,cond_true,cond_false]at h5;cases hj:Nat.beq j 0<;>simp only[hj,cond_true,cond_false]at h5;obtain rfl:=BS.1 hj;split at h5
      ·rename_i s2 z' es ib
       cases hz:Nat.beq z z'<;>simp only[hz,cond_true,cond_false]at h5;obtain rfl:=BS.1 hz;rw[OD]at h5;obtain ⟨rfl,hi,h5⟩:=h5;have hlen:(B5 σ key 0 rows)[i]? = some ((B5 σ key 0 rows)[i]'(by rw[FA];exact hi)):=zE _;have mj:((B5 σ key 0 rows)[i]'(by rw[FA];exact hi)).length=1:=by
        have:=E9 (σ:=σ) (k:=key) rows 0 i
        rw[hlen,zE hi]at this;simp only[Option.map_some,Option.some.injEq]at this;rw[this];split<;>rfl
       refine ⟨.eb (.j5 []) (st.own.put s ((st.own s).q5 (σ key 0).2 (some ⟨1,(B5 σ key 0 rows).set i [.row (σ y7 0).1 (σ y7 0).2 z 0 es.length]⟩))),_,_,_,λ C => ?_,h5,rfl,hr.Dk hm (Or.inl rfl) ib (FM.1 fq) bu nj hi⟩;simp only[g8,hr.ev e (by intro e;cases e),EN,hr.ev rfl h0,S4 hc,List.length_map];rw[if_pos ry];simp only[AH.mq,AH.get,hs,af,A8.g7,hlen,List.map_cons,List.map_nil,List.length_cons,List.length_nil,A9];rw[if_pos (by omega)];simp only[Option.map_some];have Hn:splice ((B5 σ key 0 rows)[i]'(by rw[FA];exact hi)) 0 [.row (σ y7 0).1 (σ y7 0).2 z 0 es.length]=[.row (σ y7 0).1 (σ y7 0).2 z 0 es.length]:=by
        simp only[splice,List.take_zero,List.nil_append,List.length_cons,List.length_nil,Nat.zero_add];rw[List.drop_of_length_le (by omega)];rfl
       rw[Hn]
      ·exact h5.elim
     ·rename_i y7 t2 z m
      cases fq:Nat.beq key y7<;>simp only[fq,cond_true,cond_false]at h5;cases hj:Nat.beq j 0<;>simp only[hj,cond_true,cond_false]at h5;obtain rfl:=BS.1 hj;obtain rfl:=BS.1 fq;obtain ⟨z',es,g0,h5⟩:=h5;cases hz:Nat.beq z z'<;>simp only[hz,cond_true,cond_false]at h5;obtain rfl:=BS.1 hz;obtain ⟨⟨rfl,hi⟩,h5⟩:=h5;have u7:A8.g7 σ key (.vw ((List.range rows.length).set i t2) rows)=⟨1,(B5 σ key 0 rows).set i [.row (σ key (t2+1)).1 (σ key (t2+1)).2 z 0 es.length]⟩:=by
       simp only[A8.g7];congr 1;apply List.ext_getElem?;intro p;rw[List.getElem?_map];by_cases hp:i=p
       ·subst hp
        rw[List.getElem?_set_self (by rw[List.length_range];exact hi),List.getElem?_set_self (by rw[FA];exact hi),Option.map_some,E9,g0];simp
       ·rw[List.getElem?_set_ne hp,List.getElem?_set_ne hp,E9]
        by_cases Ed:p<rows.length
        ·rw[List.getElem?_range Ed,Option.map_some,E9,zE Ed,Option.map_some,Option.getD_some]
        ·rw[List.getElem?_eq_none (by rw[List.length_range];omega),List.getElem?_eq_none (by omega)];rfl
      have hv:=hr.view (w:=(List.range rows.length).set i t2) hm (Or.inl rfl);have hlen:(B5 σ key 0 rows)[i]? = some ((B5 σ key 0 rows)[i]'(by rw[FA];exact hi)):=zE _;have mj:((B5 σ key 0 rows)[i]'(by rw[FA];exact hi)).length=1:=by
       have:=E9 (σ:=σ) (k:=key) rows 0 i
       rw[hlen,zE hi]at this;simp only[Option.map_some,Option.some.injEq]at this;rw[this];split<;>rfl
      refine ⟨.eb (.j5 []) (st.own.put s ((st.own s).q5 (σ key 0).2 (some (A8.g7 σ key (.vw ((List.range rows.length).set i t2) rows))))),_,_,_,λ C => ?_,h5,rfl,hv⟩;rw[u7];simp only[g8,hr.ev e (by intro e;cases e),EN,hr.ev rfl h0,S4 hc,List.length_map];rw[if_pos ry];simp only[AH.mq,AH.get,hs,af,A8.g7,hlen,List.map_cons,List.map_nil,List.length_cons,List.length_nil,A9];rw[if_pos (by omega)];simp only[Option.map_some];have Hn:splice ((B5 σ key 0 rows)[i]'(by rw[FA];exact hi)) 0 [.row (σ key (t2+1)).1 (σ key (t2+1)).2 z 0 es.length]=[.row (σ key (t2+1)).1 (σ key (t2+1)).2 z 0 es.length]:=by
       simp only[splice,List.take_zero,List.nil_append,List.length_cons,List.length_nil,Nat.zero_add];rw[List.drop_of_length_le (by omega)];rfl
      rw[Hn]
     ·exact h5.elim
    ·rename_i i0 v0 rows
     split at h5
     ·rename_i y7 z m
      cases fq:Nat.beq key y7<;>simp only[fq,cond_true,cond_false]at h5;cases bu:J6 key tm<;>simp only[bu,cond_true,cond_false]at h5;cases nj:IO key M<;>simp only[nj,cond_true,cond_false]at h5;cases hj:Nat.beq j 0<;>simp only[hj,cond_true,cond_false]at h5;obtain rfl:=BS.1 hj;split at h5
      ·rename_i s2 z' es ib
       cases hz:Nat.beq z z'<;>simp only[hz,cond_true,cond_false]at h5;obtain rfl:=BS.1 hz;rw[OD]at h5;obtain ⟨⟨rfl,rfl⟩,hi,h5⟩:=h5;refine ⟨.eb (.j5 []) (st.own.put s ((st.own s).q5 (σ key 0).2 (some ⟨1,(B5 σ key 0 rows).set i [.row (σ y7 0).1 (σ y7 0).2 z 0 es.length]⟩))),_,_,_,λ C => ?_,h5,rfl,hr.Dk hm (Or.inr ⟨v0,rfl⟩) ib (FM.1 fq) bu nj hi⟩;simp only[g8,hr.ev e (by intro e;cases e),EN,hr.ev rfl h0,S4 hc,List.length_map];rw[if_pos ry];simp only[AH.mq,AH.get,hs,af,A8.g7,List.getElem?_set_self (show i<(B5 σ key 0 rows).length by rw[FA];exact hi),List.map_cons,List.map_nil,List.length_cons,List.length_nil,A9];rw[if_pos (by omega)];simp only[Option.map_some,List.set_set];rfl
      ·exact h5.elim
     ·exact h5.elim
    ·rename_i w rows
     split at h5
     ·rename_i y7 t2 z m
      cases fq:Nat.beq key y7<;>simp only[fq,cond_true,cond_false]at h5;cases hj:Nat.beq j 0<;>simp only[hj,cond_true,cond_false]at h5;obtain rfl:=BS.1 hj;obtain rfl:=BS.1 fq;obtain ⟨z',es,g0,h5⟩:=h5;cases hz:Nat.beq z z'<;>simp only[hz,cond_true,cond_false]at h5;obtain rfl:=BS.1 hz;obtain ⟨⟨rfl,hi,hwr⟩,h5⟩:=h5;have u7:A8.g7 σ key (.vw (w.set i t2) rows)=⟨1,(w.map λ t=>((B5 σ key 0 rows)[t]?).getD []).set i [.row (σ key (t2+1)).1 (σ key (t2+1)).2 z 0 es.length]⟩:=by
       simp only[A8.g7];congr 1;apply List.ext_getElem?;intro p;rw[List.getElem?_map];by_cases hp:i=p
       ·subst hp
        rw[List.getElem?_set_self hi,List.getElem?_set_self (by rw[List.length_map];exact hi),Option.map_some,E9,g0];simp
       ·rw[List.getElem?_set_ne hp,List.getElem?_set_ne hp,List.getElem?_map]
      have hv:=hr.view (w:=w.set i t2) hm (Or.inr ⟨w,rfl⟩);have hlen:(w.map λ t=>((B5 σ key 0 rows)[t]?).getD [])[i]? = some ((w.map λ t=>((B5 σ key 0 rows)[t]?).getD [])[i]'(by rw[List.length_map];exact hi)):=zE _;have mj:((w.map λ t=>((B5 σ key 0 rows)[t]?).getD [])[i]'(by rw[List.length_map];exact hi)).length=1:=by
       rw[List.getElem_map];have l9:=hwr w[i] (List.getElem_mem hi);rw[E9,zE l9];simp only[Option.map_some,Option.getD_some];split<;>rfl
      refine ⟨.eb (.j5 []) (st.own.put s ((st.own s).q5 (σ key 0).2 (some (A8.g7 σ key (.vw (w.set i t2) rows))))),_,_,_,λ C => ?_,h5,rfl,hv⟩;rw[u7];simp only[g8,hr.ev e (by intro e;cases e),EN,hr.ev rfl h0,S4 hc,List.length_map];rw[if_pos ry];simp only[AH.mq,AH.get,hs,af,A8.g7,hlen,List.map_cons,List.map_nil,List.length_cons,List.length_nil,A9];rw[if_pos (by omega)];simp only[Option.map_some];have Hn:splice ((w.map λ t=>((B5 σ key 0 rows)[t]?).getD [])[i]'(by rw[List.length_map];exact hi)) 0 [.row (σ key (t2+1)).1 (σ key (t2+1)).2 z 0 es.length]=[.row (σ key (t2+1)).1 (σ key (t2+1)).2 z 0 es.length]:=by
       simp only[splice,List.take_zero,List.nil_append,List.length_cons,List.length_nil,Nat.zero_add];rw[List.drop_of_length_le (by omega)];rfl
      rw[Hn]
     ·exact h5.elim
   ·rename_i i'
    split at h5
    ·rename_i rows
     cases hd:D8 vs<;>simp only[hd,cond_true,cond_false]at h5;obtain ⟨z,es,g0,cs,g1,g2,g3,h5⟩:=h5;have af:=hr.sat.g7 key (i'+1) (.rw z es) (by simp [c4,hm,g0]);refine ⟨.eb (.j5 []) (st.own.put (σ key (i'+1)).1 ((st.own (σ key (i'+1)).1).q5 (σ key (i'+1)).2 (some ⟨z,es.set i (splice cs j vs)⟩))),σ,_,_,λ C => ?_,h5,rfl,hr.Pb hm g0 g3⟩;simp only[g8,hr.ev e (by intro e;cases e),EN,hr.ev rfl h0,S4 hc,IU hd];rw[if_pos ry];simp only[AH.mq,AH.get,af,A8.g7,g1];rw[if_pos g2];rfl
    ·exact h5.elim
  ·exact h5.elim
 ·exact h.elim
theorem Adl {s z bytes:Nat} {zero:List AV} {a c:AQ} (hr:RX σ tm M st) (h:XE L tm M c7 K (.mk s z bytes zero a c)):BX L tm c7 K (.mk s z bytes zero a c) st:=by
 simp only[XE]at h;split at h
 ·rename_i k1 p k2 q e1 e2
  cases hz:Nat.beq zero.length z<;>simp only[hz,cond_true,cond_false]at h;cases hd:D8 zero<;>simp only[hd,cond_true,cond_false]at h;split at h
  ·cases gb:EY s<;>simp only[gb,cond_true,cond_false]at h
   obtain ⟨⟨g1,g2,g3,g4⟩,h⟩:=h;obtain ⟨k,h1,h2,h3⟩:=HK h;have eg:A8.flat (.mx (List.replicate p.toNat none)):=by
    intro i x hx;have:=List.getElem?_replicate (n:=p.toNat) (a:=(none:Option (Nat × List (List AV)))) (i:=i)
    rw[this]at hx;split at hx<;>cases hx
   have jf:z=1:=(BS.1 hz).symm;have fy:A8.g7 σ k (.mx (List.replicate p.toNat none))=⟨z,List.replicate p.toNat [.nil]⟩:=by
    simp only[A8.g7,jf];congr 1;have : ∀ (n i:Nat),B5 σ k i (List.replicate n none)=List.replicate n [AV.nil]:=by
     intro n;induction n with
     | zero=>intro i;rfl
     | succ n ih=>intro i;rw[List.replicate_succ,List.replicate_succ,B5,ih]
    exact this _ _
   refine ⟨.new s (A8.g7 σ k (.mx (List.replicate p.toNat none))) (λ t => .row s t z 0 p.toNat),_,_,_,λ C => ?_,h3,?_,hr.fw h1 h2 (.mx _) eg rfl (λ_=>gb)⟩
   ·simp only[g8,hr.ev e1 (by intro e;cases e),hr.ev e2 (by intro e;cases e),G9,fy]
    rw[if_pos ⟨g1,g2,g3,g4,BS.1 hz⟩]
   ·simp only[CE.res,DH,B1]
  ·cases gb:EY s<;>simp only[gb,cond_true,cond_false]at h
   obtain ⟨⟨g1,g2,g3,g4⟩,h⟩:=h;obtain ⟨k,h1,h2,h3⟩:=HK h;refine ⟨.new s ⟨z,List.replicate p.toNat zero⟩ (λ t => .row s t z 0 p.toNat),_,_,_,λ C => ?_,h3,?_,hr.fw h1 h2 (.rw z _) trivial rfl (λ_=>gb)⟩
   ·simp only[g8,hr.ev e1 (by intro e;cases e),hr.ev e2 (by intro e;cases e),G9]
    rw[if_pos ⟨g1,g2,g3,g4,BS.1 hz⟩]
   ·simp only[CE.res,DH,B1]
 ·exact h.elim
theorem wM {v:AV} {K:AV->Prop} (h:f2 v K):v ≠ .any/\BI σ v=BV σ v/\K v:=by
 cases v<;>simp only[f2,G5]at h<;>first|exact h.elim|exact ⟨(by intro e;cases e),rfl,h⟩
theorem yF : ∀ (vs:List AV) (i:Nat),zm vs i ≠ .any->vs[i]? = some (zm vs i)
 | [],_,h=>absurd rfl h
 | _::_,0,_=>rfl
 | _::r,i+1,h=>yF r i h
theorem Adc {x:AQ} {i:Nat} (hr:RX σ tm M st) (h:XE L tm M c7 K (.ext x i)):BX L tm c7 K (.ext x i) st:=by
 simp only[XE]at h;split at h
 ·rename_i vs e
  obtain ⟨h1,h2,h3⟩:=wM (σ:=σ) h;refine BX.val hr _ (λ C => ?_) h3;simp only[g8,hr.ev e (by intro e;cases e),JJ,List.getElem?_map,yF vs i h1,Option.map_some,h2]
 ·exact h.elim
theorem Adk {x:AQ} (hr:RX σ tm M st) (h:XE L tm M c7 K (.len x)):BX L tm c7 K (.len x) st:=by
 simp only[XE]at h;split at h
 ·rename_i q es e
  exact BX.val hr _ (λ C=>by simp only[g8,hr.ev e (by intro e;cases e),II,UE];rfl) h
 ·rename_i e
  exact BX.val hr _ (λ C=>by simp only[g8,hr.ev e (by intro e;cases e),FK,UE];rfl) h
 ·rename_i e
  exact BX.val hr _ (λ C=>by simp only[g8,hr.ev e (by intro e;cases e),DH,UE];rfl) h
 ·exact h.elim
theorem zB {mx:Bool} {k:IntKind} {K:AV->Prop} : ∀ {l:List AV} {a:Int},WZ mx k K a l -> ∃ n,OL mx (.int k a) l=some (.int k n)/\K (.int k n)/\(∀ v∈l,v ≠ .any/\BI σ v=v)
 | [],a,h=>⟨a,rfl,h,λ v hv=>by cases hv⟩
 | v::r,a,h=>by
  cases v with
  | int k' b =>
   have h:(bif mx then AF (a<b) (b<=a) (WZ mx k K b r) (WZ mx k K a r) else AF (b<a) (a<=b) (WZ mx k K b r) (WZ mx k K a r)):=h;have fin : ∀ c:Int,UI mx (.int k a) (.int k' b)=some (.int k c)->WZ mx k K c r -> ∃ n,OL mx (.int k a) (.int k' b::r)=some (.int k n)/\K (.int k n)/\(∀ v∈AV.int k' b::r,v ≠ .any/\BI σ v=v):=by
    intro c hc hx;obtain ⟨n,h1,h2,h3⟩:=zB hx;refine ⟨n,by simp only[OL,hc,h1],h2,λ v hv => ?_⟩;rcases List.mem_cons.1 hv with rfl|hv
    ·exact ⟨(by intro e;cases e),rfl⟩
    ·exact h3 v hv
   cases mx
   ·simp only[cond_false]at h
    by_cases hc:b<a
    ·exact fin b (by simp [UI,hc]) (h.1 hc)
    ·exact fin a (by simp [UI,hc]) (h.2 (by omega))
   ·simp only[cond_true]at h
    by_cases hc:a<b
    ·exact fin b (by simp [UI,hc]) (h.1 hc)
    ·exact fin a (by simp [UI,hc]) (h.2 (by omega))
  | _=>exact (h:False).elim
theorem Ado {mx:Bool} {xs:List AQ} (hr:RX σ tm M st) (h:XE L tm M c7 K (.mm mx xs)):BX L tm c7 K (.mm mx xs) st:=by
 simp only[XE]at h;split at h
 ·rename_i k a r e
  obtain ⟨n,h1,h2,h3⟩:=zB (σ:=σ) h;refine BX.val hr (.int k n) (λ C => ?_) h2;have hx : ∀ v∈VH tm xs,v ≠ .any:=by
   rw[e];intro v hv;rcases List.mem_cons.1 hv with rfl|hv
   ·intro e;cases e
   ·exact (h3 v hv).1
  have hm:(VH tm xs).map (BI σ) = .int k a::r:=by
   rw[e,List.map_cons];congr 1;conv=>rhs;rw[<-List.map_id r]
   exact List.map_congr_left λ v hv=>(h3 v hv).2
  simp only[g8];rw[show xs.map st.ev = .int k a::r from (evL hr hx).trans hm];simp only[h1,Option.map_some,G9]
 ·exact h.elim
theorem Akp (hr:RX σ tm M st) {k t:Nat} {K:Nat->List (List AV)->Prop} (h:oI M k t K) : ∃ z es,(st.own (σ k t).1).g7 (σ k t).2=some ⟨z,es⟩/\K z es:=by
 unfold oI at h;split at h
 ·rename_i s c hm
  split at h
  ·split at h
   ·exact ⟨_,_,hr.sat.g7 _ _ _ (D4 hm),h⟩
   ·exact h.elim
  ·rename_i i
   split at h
   ·rename_i rows
    obtain ⟨z,es,g,h⟩:=h;exact ⟨z,es,hr.sat.g7 k (i+1) (.rw z es) (by simp [c4,hm,g]),h⟩
   ·exact h.elim
 ·exact h.elim
theorem AkZ {own m6:AH} {s t i j:Nat} {vs:List AV} (h:own.mq s t i j vs=some m6):own.put s (m6 s)=m6:=by
 unfold AH.mq at h;cases hg:own.get s t with
 | none=>simp [hg]at h
 | some b =>
  simp only[hg]at h;cases he:b.es[i]? with
  | none=>simp [he]at h
  | some cs =>
   simp only[he]at h;split at h
   ·obtain rfl:=Option.some.inj h
    rw[AH.j9]
   ·cases h
theorem Adt {s n:Nat} {x v:AQ} (hr:RX σ tm M st) (h:XE L tm M c7 K (.oh s n x v)):BX L tm c7 K (.oh s n x v) st:=by
 simp only[XE]at h;split at h
 ·rename_i key i j e1
  split at h
  ·rename_i s' c hm
   cases hb:Nat.beq s' s<;>simp only[hb,cond_true,cond_false]at h;obtain rfl:=BS.1 hb;have fu:=hr.sat.site _ _ _ hm;obtain ⟨E,σ',v',M',h1,h2,h3,h4⟩:=rJ (c7:=c7) (L:=L) hr (show XE L tm M c7 K (.st n x v) from h);have bg:=hr.ev e1 (by intro e;cases e);rw[EN,fu]at bg;have key : ∀ vs,cellsOf (st.ev v)=some vs->vs.length=n -> ∃ o',st.own.mq s' (σ key 0).2 i j vs=some o'/\E = .eb (.j5 []) o':=λ vs il hn=>by
    have:=h1 0
    simp only[g8,bg,il]at this;rw[if_pos hn,Option.map_eq_some_iff]at this;obtain ⟨o',a1,a2⟩:=this;exact ⟨o',a1,a2.symm⟩
   cases il:cellsOf (st.ev v) with
   | none=>have:=h1 0;simp [g8,bg,il]at this
   | some vs =>
    by_cases hn:vs.length=n
    ·obtain ⟨o',a1,rfl⟩:=key vs il hn
     refine ⟨.q5 s' (o' s'),σ',v',M',λ C => ?_,h2,h3,?_⟩
     ·simp only[g8,bg,il]
      rw[if_pos ⟨trivial,hn⟩,a1];rfl
     ·have e2:(CE.res st.own (.q5 s' (o' s'))).2=o':=AkZ a1
      rw[e2];exact h4
    ·have:=h1 0
     simp only[g8,bg,il]at this;rw[if_neg hn]at this;cases this
  ·exact h.elim
 ·exact h.elim
theorem Adh {ne:Bool} {x:AQ} (hr:RX σ tm M st) (h:XE L tm M c7 K (.tu ne x)):BX L tm c7 K (.tu ne x) st:=by
 simp only[XE]at h;split at h
 ·rename_i e1
  rw[UB]at h;exact BX.val hr _ (λ C=>by simp only[g8,hr.ev e1 (by intro e;cases e),FK,G8]) h
 ·rename_i b e1
  rw[UB]at h;exact BX.val hr _ (λ C=>by simp only[g8,hr.ev e1 (by intro e;cases e),Akq,G8]) h
 ·rename_i q es e1
  obtain ⟨h0,h⟩:=h;rw[UB]at h;cases es with
  | nil=>exact absurd rfl h0
  | cons e es=>exact BX.val hr _ (λ C=>by simp only[g8,hr.ev e1 (by intro e;cases e),II,G8]) h
 ·rename_i s t z o n e1
  obtain ⟨h0,h⟩:=h;rw[UB]at h;cases n with
  | zero=>exact absurd h0 (by omega)
  | succ n=>exact BX.val hr _ (λ C=>by simp only[g8,hr.ev e1 (by intro e;cases e),DH,G8]) h
 ·exact h.elim
theorem Ada {x:AQ} (hr:RX σ tm M st) (h:XE L tm M c7 K (.fm x)):BX L tm c7 K (.fm x) st:=by
 simp only[XE]at h;split at h
 ·rename_i e
  exact BX.val hr _ (λ C=>by simp only[g8,hr.ev e (by intro e;cases e),FK];rfl) h
 ·exact h.elim
theorem Yl {s z bytes:Nat} {x y:AQ} (hr:RX σ tm M st) (h:XE L tm M c7 K (.oi s z bytes x y)):BX L tm c7 K (.oi s z bytes x y) st:=by
 simp only[XE]at h;split at h
 ·rename_i k n e1 e2
  cases gb:EY s<;>simp only[gb,cond_true,cond_false]at h;obtain ⟨⟨g1,g2,g3⟩,h⟩:=h;obtain ⟨k,h1,h2,h3⟩:=HK h;refine ⟨.new s ⟨z,[]⟩ (λ t => .row s t z 0 n.toNat),_,_,_,λ C => ?_,h3,?_,hr.fw h1 h2 (.rw z []) trivial rfl (λ_=>gb)⟩
  ·simp only[g8,hr.ev e1 (by intro e;cases e),hr.ev e2 (by intro e;cases e),G9,FK]
   rw[if_pos ⟨g1,g2,g3⟩]
  ·simp only[CE.res,DH,B1]
 ·exact h.elim
theorem Adr {tb:List Nat} {x:AQ} (hr:RX σ tm M st) (h:XE L tm M c7 K (.gv tb x)):BX L tm c7 K (.gv tb x) st:=by
 simp only[XE]at h;split at h
 ·rename_i k n e1
  obtain ⟨h0,v,h1,h2⟩:=h;exact BX.val hr _ (λ C=>by simp only[g8,hr.ev e1 (by intro e;cases e),G9,h1];rw[if_pos h0]) h2
 ·exact h.elim
theorem Ahq {v:AV} {K:AV->Prop} (h:fF v K):v ≠ .any/\GW (BI σ v)=some (A9 σ v)/\K v:=by
 cases v<;>first|exact (h:False).elim|exact ⟨(by intro e;cases e),rfl,h⟩
theorem zT (hr:RX σ tm M st) : ∀ {l:List AQ} {K:List AV->Prop},nF tm l K -> ∃ cs,l.mapM (λ x=>GW (st.ev x))=some (cs.map (A9 σ))/\K cs
 | [],K,h=>⟨[],rfl,h⟩
 | x::r,K,h=>by
  obtain ⟨h0,hc,h⟩:=Ahq (σ:=σ) (show fF (ex tm x) λ v=>nF tm r λ cs=>K (v::cs) from h);obtain ⟨cs,h1,h2⟩:=zT hr h;refine ⟨ex tm x::cs,?_,h2⟩;rw[List.mapM_cons,h1,hr.ev rfl h0,hc];rfl
theorem Adn {p:Bool} {f:Nat} {xs:List AQ} (hr:RX σ tm M st) (h:XE L tm M c7 K (.qo p f xs)):BX L tm c7 K (.qo p f xs) st:=by
 simp only[XE]at h;obtain ⟨cs,h1,h2⟩:=zT hr h;exact BX.val hr _ (λ C=>by simp only[g8,h1,Option.map_some,bI,List.isEmpty_map];rfl) h2
theorem Adm {f:Nat} {x:AQ} (hr:RX σ tm M st) (h:XE L tm M c7 K (.sd f x)):BX L tm c7 K (.sd f x) st:=by
 simp only[XE]at h;split at h
 ·rename_i c cs e1
  exact BX.val hr _ (λ C=>by simp only[g8,hr.ev e1 (by intro e;cases e),HY,bI,List.map_cons];rfl) h
 ·exact h.elim
theorem Af2 (hr:RX σ tm M st) {v:AV} {K:List (List AV)->Prop} (h:dV M v K):v ≠ .any /\ ∃ es,ES st.own (BI σ v)=some es/\K es:=by
 cases v with
 | sl q es=>exact ⟨(by intro e;cases e),_,rfl,h⟩
 | nil=>exact ⟨(by intro e;cases e),_,rfl,h⟩
 | dh v =>
  cases v with
  | bool b=>exact ⟨(by intro e;cases e),_,rfl,h⟩
  | _=>exact (h:False).elim
 | row key t z off len =>
  simp only[dV]at h;obtain ⟨z',es,g,h⟩:=Akp hr h;cases hz:Nat.beq z z'<;>simp only[hz,cond_true,cond_false]at h;obtain rfl:=BS.1 hz;refine ⟨(by intro e;cases e),_,?_,h.2⟩;simp only[DH,ES,AH.get,g];rw[if_pos ⟨h.1,trivial⟩]
 | _=>exact (h:False).elim
theorem nG (hr:RX σ tm M st) {o:Option AQ} {K:Option Int->Prop} (h:fI tm o K):(o=none/\K none) \/ ∃ x k n,o=some x/\st.ev x = .int k n/\K (some n):=by
 unfold fI at h;split at h
 ·exact Or.inl ⟨rfl,h⟩
 ·split at h
  ·rename_i e
   exact Or.inr ⟨_,_,_,rfl,hr.ev e (by intro e;cases e),h⟩
  ·exact h.elim
theorem Ads {z:Nat} {x:AQ} {lo hi:Option AQ} (hr:RX σ tm M st) (h:XE L tm M c7 K (.fx z x lo hi)):BX L tm c7 K (.fx z x lo hi) st:=by
 simp only[XE]at h;have go : ∀ (a b:Option Int),(match ex tm x with
   | .sl l es=>B9 z es a b λ es=>K (.sl l es) M
   | .row key t z' off len=>bif Nat.beq z' z then BR a b len λ a h=>K (.row key t z (off+a) (h-a)) M else False
   | .nil=>(match a,b with
    | none,none=>K .nil M
    | some a,none=>AP (a=0) (K .nil M)
    | none,some h=>AP (h=0) (K .nil M)
    | some a,some h=>AP (a=0/\h=0) (K .nil M))
   | _=>False)->(lo=none/\a=none \/ ∃ y k n,lo=some y/\st.ev y = .int k n/\a=some n)->(hi=none/\b=none \/ ∃ y k n,hi=some y/\st.ev y = .int k n/\b=some n)->BX L tm c7 K (.fx z x lo hi) st:=by
  intro a b h ha hb;split at h
  ·rename_i q es e
   obtain ⟨g1,a',h',g2,g3,g4,h⟩:=h;refine BX.val hr _ (λ C => ?_) h;rcases ha with ⟨rfl,rfl⟩|⟨y,k,n,rfl,e1,rfl⟩<;>rcases hb with ⟨rfl,rfl⟩|⟨y',k',n',rfl,e2,rfl⟩<;>try simp only at g2 g3<;>simp only[g8,hr.ev e (by intro e;cases e),II, *]<;>simp_all
  ·rename_i key t z' off len e
   cases hz:Nat.beq z' z<;>simp only[hz,cond_true,cond_false]at h;obtain rfl:=BS.1 hz;obtain ⟨a',h',g2,g3,g4,h⟩:=h;refine BX.val hr _ (λ C => ?_) h;rcases ha with ⟨rfl,rfl⟩|⟨y,k,n,rfl,e1,rfl⟩<;>rcases hb with ⟨rfl,rfl⟩|⟨y',k',n',rfl,e2,rfl⟩<;>try simp only at g2 g3<;>simp only[g8,hr.ev e (by intro e;cases e),DH, *]<;>simp_all
  ·rename_i e
   rcases ha with ⟨rfl,rfl⟩|⟨y,k,n,rfl,e1,rfl⟩<;>rcases hb with ⟨rfl,rfl⟩|⟨y',k',n',rfl,e2,rfl⟩<;>simp only at h
   ·exact BX.val hr .nil (λ C=>by simp only[g8,hr.ev e (by intro e;cases e),FK]) h
   ·exact BX.val hr .nil (λ C=>by simp only[g8,hr.ev e (by intro e;cases e),FK,e2,h.1,if_true]) h.2
   ·exact BX.val hr .nil (λ C=>by simp only[g8,hr.ev e (by intro e;cases e),FK,e1,h.1,if_true]) h.2
   ·exact BX.val hr .nil (λ C=>by simp only[g8,hr.ev e (by intro e;cases e),FK,e1,e2,h.1.1,h.1.2,if_true]) h.2
  ·exact h.elim
 rcases nG hr h with ⟨h1,h⟩|⟨y,k,n,h1,h2,h⟩
 ·rcases nG hr h with ⟨g1,h⟩|⟨y,k,n,g1,g2,h⟩
  ·exact go _ _ h (Or.inl ⟨h1,rfl⟩) (Or.inl ⟨g1,rfl⟩)
  ·exact go _ _ h (Or.inl ⟨h1,rfl⟩) (Or.inr ⟨_,_,_,g1,g2,rfl⟩)
 ·rcases nG hr h with ⟨g1,h⟩|⟨y',k',n',g1,g2,h⟩
  ·exact go _ _ h (Or.inr ⟨_,_,_,h1,h2,rfl⟩) (Or.inl ⟨g1,rfl⟩)
  ·exact go _ _ h (Or.inr ⟨_,_,_,h1,h2,rfl⟩) (Or.inr ⟨_,_,_,g1,g2,rfl⟩)
theorem gE {s key:Nat} : ∀ {M:Mem},GY s M=false->GY s (o5 key M)=false
 | [],_=>rfl
 | (i,s0,c0)::r,h=>by
  simp only[GY]at h;cases q0:Nat.beq s i<;>simp only[q0,cond_true,cond_false]at h
  ·cases q1:G7 s c0<;>simp only[q1,cond_true,cond_false]at h
   ·simp only[o5]
    cases Nat.beq key i
    ·simp only[cond_false,GY,q0,q1,gE h]
    ·simp only[cond_true,gE h]
   ·cases h
  ·cases h
theorem Yj {s z bytes:Nat} {x y:AQ} (hr:RX σ tm M st) (h:dV M (ex tm y) λ ys=>match ex tm x with
   | .row key 0 z' off len=>bif Nat.beq off 0 then bif Nat.beq z' z then (match e8 M key with
    | some (s',.rw iq es)=>bif Nat.beq iq z then fM (o5 key M) λ M'=>(BQ es len ys z bytes λ es' n=>GA s tm M λ k=>K (.row k 0 z 0 n) ((k,s',.rw z es')::M')) else False
    | _=>False) else False else False
   | .row key (i+1) z' off len=>bif Nat.beq off 0 then bif Nat.beq z' z then (match e8 M key with
    | some (sk,.mx rows)=>fM (o5 key M) λ M'=>BH rows i λ iq es=>bif Nat.beq iq z then (BQ es len ys z bytes λ es' n => ∀ s' v,GA s tm M λ k=>K (.row k 0 z 0 n) ((k,s',.rw z es')::(key,sk,.hx i v (rows.set i none))::M')) else False
    | _=>False) else False else False
   | .nil=>bif EY s then B8 ys z bytes λ es n=>GA s tm M λ k=>K (.row k 0 z 0 n) ((k,s,.rw z es)::M) else False
   | _=>False):BX L tm c7 K (.app s z bytes x y) st:=by
 obtain ⟨h0,ys,hy,h⟩:=Af2 hr h;have uo:ES st.own (st.ev y)=some ys:=by rw[hr.ev rfl h0];exact hy
 split at h
 ·rename_i key z' off len e
  cases ho:Nat.beq off 0<;>simp only[ho,cond_true,cond_false]at h;cases hz:Nat.beq z' z<;>simp only[hz,cond_true,cond_false]at h;obtain rfl:=BS.1 ho;obtain rfl:=BS.1 hz;split at h
  ·rename_i s' iq es hm
   cases ya:Nat.beq iq z'<;>simp only[ya,cond_true,cond_false]at h;obtain rfl:=BS.1 ya;rw[OD]at h;obtain ⟨g1,g2,g3,g4,h⟩:=h;obtain ⟨k,h1,h2,h3⟩:=HK h;have hs:=hr.sat.site _ _ _ hm;have af:=hr.sat.g7 _ _ _ (D4 hm);have hn:=(hr.kill hm).fw (s:=k) (q:=s') (gE h1) h2 (.rw iq (es.take len++ys)) trivial rfl (λ_=>by have:=hr.sat.low _ _ _ (D4 hm) rfl;rwa [hs]at this);have Bm:(st.own.put s' ((st.own s').q5 (σ key 0).2 none)).j7 s'=st.own.j7 s':=by simp [AH.j7,AH.j9,CF.q5]
   simp only[AH.j9,AH.mo,Bm]at hn;refine ⟨.eb (.row s' (st.own.j7 s') iq 0 (len+ys.length)) (st.own.put s' (((st.own s').q5 (σ key 0).2 none).new ⟨iq,es.take len++ys⟩)),_,_,_,λ C => ?_,h3,?_,hn⟩
   ·rw[hs]at af
    simp only[g8,uo,hr.ev e (by intro e;cases e),DH,AH.get,hs,af,A8.g7];rw[if_pos g2,if_pos ⟨trivial,trivial,g1,g3,g4⟩]
   ·simp only[CE.res,DH,B1]
  ·exact h.elim
 ·rename_i key i z' off len e
  cases ho:Nat.beq off 0<;>simp only[ho,cond_true,cond_false]at h;cases hz:Nat.beq z' z<;>simp only[hz,cond_true,cond_false]at h;obtain rfl:=BS.1 ho;obtain rfl:=BS.1 hz;split at h
  ·rename_i sk rows hm
   rw[OD]at h;obtain ⟨iq,es,g0,h⟩:=h;cases ya:Nat.beq iq z'<;>simp only[ya,cond_true,cond_false]at h;obtain rfl:=BS.1 ya;obtain ⟨g1,g2,g3,g4,h⟩:=h;have h:=h (σ key (i+1)).1 (.row (σ key (i+1)).1 (σ key (i+1)).2 iq 0 es.length);obtain ⟨k,h1,h2,h3⟩:=HK h;have af:=hr.sat.g7 key (i+1) (.rw iq es) (by simp [c4,hm,g0]);have hn:=hr.Jt (s:=k) (es':=es.take len++ys) hm g0 h1 h2;refine ⟨.eb (.row (σ key (i+1)).1 (st.own.j7 (σ key (i+1)).1) iq 0 (len+ys.length)) (st.own.put (σ key (i+1)).1 (((st.own (σ key (i+1)).1).q5 (σ key (i+1)).2 none).new ⟨iq,es.take len++ys⟩)),_,_,_,λ C => ?_,h3,?_,hn⟩
   ·simp only[g8,uo,hr.ev e (by intro e;cases e),DH,AH.get,af,A8.g7]
    rw[if_pos g2,if_pos ⟨trivial,trivial,g1,g3,g4⟩]
   ·simp only[CE.res,DH,B1]
  ·exact h.elim
 ·rename_i e
  cases gb:EY s<;>simp only[gb,cond_true,cond_false]at h;obtain ⟨g2,g3,g4,h⟩:=h;obtain ⟨k,h1,h2,h3⟩:=HK h;refine ⟨.eb (.row s (st.own.j7 s) z 0 ys.length) (st.own.put s ((st.own s).new ⟨z,ys⟩)),_,_,_,λ C => ?_,h3,?_,hr.fw h1 h2 (.rw z ys) trivial rfl (λ_=>gb)⟩
  ·simp only[g8,uo,hr.ev e (by intro e;cases e),FK]
   rw[if_pos g2,if_pos ⟨g3,g4⟩]
  ·simp only[CE.res,DH,B1]
 ·exact h.elim
theorem AdA {v:AV} {ky k2 z n:Nat} (h:WC M v=some (ky,some (k2,z,n))):v = .row ky 0 1 0 1 /\ ∃ sy,e8 M ky=some (sy,.bs 1 [[.row k2 0 z 0 n]]):=by
 unfold WC at h;split at h
 ·split at h
  ·rename_i hm
   simp only[Option.some.injEq,Prod.mk.injEq]at h;obtain ⟨rfl,rfl,rfl,rfl⟩:=h;exact ⟨rfl,_,hm⟩
  ·simp at h
  ·cases h
 ·cases h
theorem Adz {v:AV} {ky:Nat} (h:WC M v=some (ky,none)):v = .row ky 0 1 0 1 /\ ∃ sy,e8 M ky=some (sy,.rw 1 [[.nil]]):=by
 unfold WC at h;split at h
 ·split at h
  ·simp at h
  ·rename_i hm
   simp only[Option.some.injEq,Prod.mk.injEq,and_true]at h;subst h;exact ⟨rfl,_,hm⟩
  ·cases h
 ·cases h
theorem yE {z:Nat} : ∀ {es:List (List AV)},aM z es=true -> ∀ e∈es,e.length=z
 | [],_,e,he=>by cases he
 | a::r,h,e,he=>by
  simp only[aM]at h;cases h1:Nat.beq a.length z<;>simp only[h1,cond_true,cond_false]at h
  ·cases h
  ·rcases List.mem_cons.1 he with rfl|he
   ·exact BS.1 h1
   ·exact yE h e he
theorem Pz {k:Nat} {b:List (List AV)} (r2:JW k b=false) : ∀ {a:List (List AV)},JW k a=false->JW k (a++b)=false
 | [],_=>r2
 | c::a,h=>by
  simp only[JW,List.cons_append]at h ⊢;cases hq:IG k c<;>simp only[hq,cond_true,cond_false]at h ⊢
  ·exact Pz r2 h
  ·cases h
theorem Yk {s z bytes:Nat} {x y:AQ} (hr:RX σ tm M st) (h:iZ tm M s z bytes x y K):BX L tm c7 K (.app s z bytes x y) st:=by
 unfold iZ at h;split at h
 ·rename_i ky zy ny ey
  split at h
  ·rename_i sy z2 lf ru
   cases a1:Nat.beq zy z<;>simp only[a1,cond_true,cond_false]at h;cases a2:Nat.beq z2 z<;>simp only[a2,cond_true,cond_false]at h;cases a3:Nat.beq ny lf.length<;>simp only[a3,cond_true,cond_false]at h;cases a4:aM z lf<;>simp only[a4,cond_true,cond_false]at h;have b1:=BS.1 a1;have b2:=BS.1 a2;have b3:=BS.1 a3;subst b1 b2 b3;have kp:=hr.sat.site _ _ _ ru;have oo:=hr.sat.g7 _ _ _ (D4 ru);rw[kp]at oo
   have Bd:ES st.own (st.ev y)=some (lf.map λ cs=>cs.map (A9 σ)):=by
    rw[hr.ev ey (by intro e;cases e)];simp only[DH,ES,AH.get,kp,oo,A8.g7];rw[if_pos (by simp),List.drop_zero,List.take_of_length_le (by simp)]
   have ag : ∀ e∈lf.map (λ cs=>cs.map (A9 σ)),e.length=z2:=λ e he=>by
    obtain ⟨c,hc,rfl⟩:=List.mem_map.1 he;rw[List.length_map];exact yE a4 c hc
   split at h
   ·rename_i e
    cases gb:EY s<;>simp only[gb,cond_true,cond_false]at h;obtain ⟨⟨g3,g4⟩,h⟩:=mN h;obtain ⟨k,h1,h2,h3⟩:=HK h;have xv:G7 k (.bs z2 lf)=false:=(TI h1 _ _ _ ru).2;refine ⟨.eb (.row s (st.own.j7 s) z2 0 lf.length) (st.own.put s ((st.own s).new ⟨z2,lf.map λ cs=>cs.map (A9 σ)⟩)),_,_,_,λ C => ?_,h3,?_,hr.fw h1 h2 (.bs z2 lf) trivial xv (λ_=>gb)⟩
    ·simp only[g8,Bd,hr.ev e (by intro e;cases e),FK]
     rw[if_pos ag,if_pos ⟨by simpa [EA] using g3,by simpa using g4⟩,List.length_map]
    ·simp only[CE.res,DH,B1]
   ·rename_i kx zx len e
    cases c1:Nat.beq zx z2<;>simp only[c1,cond_true,cond_false]at h;split at h
    ·rename_i s' z1 xg hm
     cases c2:Nat.beq z1 z2<;>simp only[c2,cond_true,cond_false]at h;cases c3:Nat.beq len xg.length<;>simp only[c3,cond_true,cond_false]at h;have d1:=BS.1 c1;have d2:=BS.1 c2;have d3:=BS.1 c3;subst d1 d3;rw[OD]at h;obtain ⟨⟨g3,g4⟩,h⟩:=mN h;obtain ⟨k,h1,h2,h3⟩:=HK h;have hs:=hr.sat.site _ _ _ hm;have af:=hr.sat.g7 _ _ _ (D4 hm);have r1:JW k xg=false:=(TI h1 _ _ _ hm).2;have r2:JW k lf=false:=(TI h1 _ _ _ ru).2;have xv:G7 k (.bs zx (xg++lf))=false:=by
      exact Pz r2 r1
     have hn:=(hr.kill hm).fw (s:=k) (q:=s') (gE h1) h2 (.bs zx (xg++lf)) trivial xv (λ_=>by have:=hr.sat.low _ _ _ (D4 hm) rfl;rwa [hs]at this);have Bm:(st.own.put s' ((st.own s').q5 (σ kx 0).2 none)).j7 s'=st.own.j7 s':=by simp [AH.j7,AH.j9,CF.q5]
     simp only[AH.j9,AH.mo,Bm,A8.g7,List.map_append]at hn;rw[hs]at af;refine ⟨.eb (.row s' (st.own.j7 s') zx 0 (xg.length+lf.length)) (st.own.put s' (((st.own s').q5 (σ kx 0).2 none).new ⟨zx,xg.map (λ cs=>cs.map (A9 σ))++lf.map λ cs=>cs.map (A9 σ)⟩)),_,_,_,λ C => ?_,h3,?_,hn⟩
     ·simp only[g8,Bd,hr.ev e (by intro e;cases e),DH,AH.get,hs,af,A8.g7]
      rw[if_pos ag,if_pos ⟨d2,trivial,by simp,by simpa [EA] using g3,by simpa using g4⟩,List.take_of_length_le (by simp),List.length_map]
     ·simp only[CE.res,DH,B1,List.length_append]
    ·exact h.elim
   ·exact h.elim
  ·exact h.elim
 ·exact h.elim
theorem Yi {s z bytes:Nat} {x y:AQ} (hr:RX σ tm M st) (h:XE L tm M c7 K (.app s z bytes x y)):BX L tm c7 K (.app s z bytes x y) st:=by
 simp only[XE]at h;cases hV:Nat.ble 800000 s<;>simp only[hV,cond_true,cond_false]at h;rotate_left
 ·exact Yk hr h
 split at h
 ·rename_i ky k2 z2 n2 Ai
  obtain ⟨nv,sy,ru⟩:=AdA Ai;have kp:=hr.sat.site _ _ _ ru;have oo:=hr.sat.g7 _ _ _ (D4 ru);rw[kp]at oo
  have Bd:ES st.own (st.ev y)=some [[.row (σ k2 0).1 (σ k2 0).2 z2 0 n2]]:=by
   rw[hr.ev nv (by intro e;cases e)];simp only[DH,ES,AH.get,kp,oo,A8.g7,A9,List.map_cons,List.map_nil,List.length_cons,List.length_nil];simp
  split at h
  ·rename_i key z' off len e
   cases ho:Nat.beq off 0<;>simp only[ho,cond_true,cond_false]at h;cases hz:Nat.beq z' 1<;>simp only[hz,cond_true,cond_false]at h;cases jf:Nat.beq z 1<;>simp only[jf,cond_true,cond_false]at h;cases ia:Nat.beq key k2<;>simp only[ia,cond_true,cond_false]at h;cases Mj:Nat.beq key ky<;>simp only[Mj,cond_true,cond_false]at h;cases hk3:Nat.beq k2 ky<;>simp only[hk3,cond_true,cond_false]at h;obtain rfl:=BS.1 ho;obtain rfl:=BS.1 hz;obtain rfl:=BS.1 jf;split at h
   ·rename_i s2 z3 es ib
    cases Ht:Nat.beq z2 z3<;>simp only[Ht,cond_true,cond_false]at h;obtain rfl:=BS.1 Ht;split at h
    ·rename_i s' rows hm
     rw[OD]at h;obtain ⟨rfl,rfl,g3,g4,h⟩:=h;obtain ⟨k,h1,h2,h3⟩:=HK h;have hs:=hr.sat.site _ _ _ hm;have af:=hr.sat.g7 _ _ _ (D4 hm);rw[hs]at af;refine ⟨.eb (.row s' (st.own.j7 s') 1 0 (rows.length+1)) (st.own.put s' (((st.own s').q5 (σ key 0).2 none).new ⟨1,B5 σ key 0 rows++[[.row (σ k2 0).1 (σ k2 0).2 z2 0 es.length]]⟩)),_,_,_,λ C => ?_,h3,?_,hr.Ju (ky:=ky) hm ib (FM.1 ia) h1 h2⟩
     ·simp only[g8,Bd,hr.ev e (by intro e;cases e),DH,AH.get,hs,af,A8.g7]
      rw[if_pos (by simp),if_pos ⟨trivial,trivial,by rw[FA];exact Nat.le_refl _,by simpa using g3,by simpa using g4⟩];rw[List.take_of_length_le (by rw[FA];exact Nat.le_refl _)];rfl
     ·simp only[CE.res,DH,B1]
    ·exact h.elim
   ·exact h.elim
  ·rename_i e
   cases gb:EY s<;>simp only[gb,cond_true,cond_false]at h;cases jf:Nat.beq z 1<;>simp only[jf,cond_true,cond_false]at h;obtain rfl:=BS.1 jf;split at h
   ·rename_i s2 z3 es ib
    cases Ht:Nat.beq z2 z3<;>simp only[Ht,cond_true,cond_false]at h;obtain rfl:=BS.1 Ht;rw[OD]at h;obtain ⟨⟨rfl,g3⟩,h⟩:=h;obtain ⟨k,h1,h2,h3⟩:=HK h;obtain ⟨σ',q1,q2⟩:=hr.Pa (q:=s) ib (λ e=>(TI h1 _ _ _ ib).1 e.symm) h1 h2 gb;refine ⟨.eb (.row s (st.own.j7 s) 1 0 1) (st.own.put s ((st.own s).new ⟨1,[[.row (σ k2 0).1 (σ k2 0).2 z2 0 es.length]]⟩)),σ',_,_,λ C => ?_,h3,?_,q2⟩
    ·simp only[g8,Bd,hr.ev e (by intro e;cases e),FK]
     rw[if_pos (by simp),if_pos ⟨by simpa [EA] using g3,by simp⟩];rfl
    ·simp only[CE.res,DH,q1]
   ·exact h.elim
  ·exact h.elim
 ·rename_i ky Ai
  obtain ⟨nv,sy,ru⟩:=Adz Ai;have kp:=hr.sat.site _ _ _ ru;have oo:=hr.sat.g7 _ _ _ (D4 ru);rw[kp]at oo
  have Bd:ES st.own (st.ev y)=some [[.nil]]:=by
   rw[hr.ev nv (by intro e;cases e)];simp only[DH,ES,AH.get,kp,oo,A8.g7,List.length_cons,List.length_nil];simp
  split at h
  ·rename_i key z' off len e
   cases ho:Nat.beq off 0<;>simp only[ho,cond_true,cond_false]at h;cases hz:Nat.beq z' 1<;>simp only[hz,cond_true,cond_false]at h;cases jf:Nat.beq z 1<;>simp only[jf,cond_true,cond_false]at h;cases Mj:Nat.beq key ky<;>simp only[Mj,cond_true,cond_false]at h;obtain rfl:=BS.1 ho;obtain rfl:=BS.1 hz;obtain rfl:=BS.1 jf;split at h
   ·rename_i s' rows hm
    rw[OD]at h;obtain ⟨rfl,g3,g4,h⟩:=h;obtain ⟨k,h1,h2,h3⟩:=HK h;have hs:=hr.sat.site _ _ _ hm;have af:=hr.sat.g7 _ _ _ (D4 hm);rw[hs]at af;refine ⟨.eb (.row s' (st.own.j7 s') 1 0 (rows.length+1)) (st.own.put s' (((st.own s').q5 (σ key 0).2 none).new ⟨1,B5 σ key 0 rows++[[.nil]]⟩)),_,_,_,λ C => ?_,h3,?_,hr.Jv hm h1 h2⟩
    ·simp only[g8,Bd,hr.ev e (by intro e;cases e),DH,AH.get,hs,af,A8.g7]
     rw[if_pos (by simp),if_pos ⟨trivial,trivial,by rw[FA];exact Nat.le_refl _,by simpa using g3,by simpa using g4⟩];rw[List.take_of_length_le (by rw[FA];exact Nat.le_refl _)];rfl
    ·simp only[CE.res,DH,B1]
   ·exact h.elim
  ·rename_i e
   cases gb:EY s<;>simp only[gb,cond_true,cond_false]at h;cases jf:Nat.beq z 1<;>simp only[jf,cond_true,cond_false]at h;obtain rfl:=BS.1 jf;obtain ⟨g3,h⟩:=h;obtain ⟨k,h1,h2,h3⟩:=HK h;have eg:A8.flat (.mx [none]):=by
    intro i x hx;cases i with
    | zero=>simp at hx
    | succ i=>simp at hx
   refine ⟨.eb (.row s (st.own.j7 s) 1 0 1) (st.own.put s ((st.own s).new ⟨1,[[.nil]]⟩)),_,_,_,λ C => ?_,h3,?_,hr.fw h1 h2 (.mx [none]) eg rfl (λ_=>gb)⟩
   ·simp only[g8,Bd,hr.ev e (by intro e;cases e),FK]
    rw[if_pos (by simp),if_pos ⟨by simpa [EA] using g3,by simp⟩];rfl
   ·simp only[CE.res,DH,B1]
  ·exact h.elim
 ·exact Yj hr h
