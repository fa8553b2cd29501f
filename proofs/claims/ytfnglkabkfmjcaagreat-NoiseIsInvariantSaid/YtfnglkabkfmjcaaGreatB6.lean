/-
  The walk by computation is sound.
-/
import Derived.Test.YtfnglkabkfmjcaaGreatB5
set_option linter.unusedSimpArgs false
set_option linter.unusedVariables false
set_option linter.unnecessarySimpa false
namespace Go.e9
theorem BN {a b:Nat}:Nat.beq a b=true↔a=b:=⟨Nat.eq_of_beq_eq_true,λ h=>by subst h;simp⟩
theorem FR {a b:Nat}:Nat.beq a b=false↔a≠b:=by
 constructor
 ·exact Nat.ne_of_beq_eq_false
 ·intro h
  cases e:Nat.beq a b
  ·rfl
  ·exact absurd (Nat.eq_of_beq_eq_true e) h
theorem S0 (j:Nat) : ∀ tm:Tm,tg tm j=m8 tm j
 | []=>rfl
 | (i,v)::r=>by
  simp only[tg,oM,S0 j r];cases e:Nat.beq j i
  ·rw[if_neg (FR.1 e)];rfl
  ·rw[if_pos (BN.1 e)];rfl
theorem IJ : ∀ (l:List AV) (K:List AV->Prop),fL l K=K l
 | [],_=>rfl
 | v::r,K=>by rw[fL,IJ r]
theorem mW : ∀ (l:Tm) (K:Tm->Prop),fT l K=K l
 | [],_=>rfl
 | (i,v)::r,K=>by rw[fT,mW r]
theorem XP : ∀ (l:Mem) (K:Mem->Prop),fM l K=K l
 | [],_=>rfl
 | (k,s,c)::r,K=>by rw[fM,XP r]
theorem AmF (n:Nat) (K:Nat->Prop):fN n K=K n:=by cases n<;>rfl
theorem uU (m i:Nat):bit m i=m.testBit i:=by
 have h:Nat.land (Nat.shiftRight m i) 1=(m >>> i)%2:=Nat.and_one_is_mod (m >>> i);have ht:m.testBit i=decide ((m >>> i)%2=1):=by
  rw[Nat.testBit,Nat.and_comm,Nat.and_one_is_mod];rcases Nat.mod_two_eq_zero_or_one (m >>> i) with e|e<;>simp [e]
 unfold bit;rw[h,ht];rcases Nat.mod_two_eq_zero_or_one (m >>> i) with e|e<;>rw[e]<;>rfl
theorem Vv (m i j:Nat):bit (Nat.lor m (Nat.shiftLeft 1 i)) j=(bit m j||decide (j=i)):=by
 rw[uU,uU];show (m ||| (1 <<< i)).testBit j=_;rw[Nat.testBit_or,Nat.testBit_shiftLeft];congr 1;by_cases h:j=i
 ·subst h;simp
 ·by_cases h2:j≥i
  ·obtain ⟨d,rfl⟩ : ∃ d,j=i+d+1:=⟨j-i-1,by omega⟩
   rw[show i+d+1-i=d+1 by omega,Nat.testBit_succ];simp [h]
  ·simp [h2,h]
theorem Vu : ∀ (ts:List Nat) (m j:Nat),bit (mask m ts) j=(bit m j||ts.contains j)
 | [],m,j=>by simp [mask]
 | t::ts,m,j=>by
  rw[mask,Vu ts,Vv,List.contains_cons,Bool.or_assoc];congr 2
theorem uV (j:Nat):bit 0 j=false:=by rw[uU];simp
theorem oK (j:Nat) : ∀ (tm:Tm) (m:Nat),tg (Ay m tm) j=bif bit m j then .any else tg tm j
 | [],m=>by cases bit m j<;>rfl
 | (i,v)::r,m=>by
  simp only[Ay];cases hb:bit m i
  ·simp only[cond_false,tg,oK j r,Vv]
   cases hj:Nat.beq j i
   ·have:decide (j=i)=false:=by simpa using FR.1 hj
    simp only[cond_false,this,Bool.or_false]
   ·obtain rfl:=BN.1 hj
    simp only[cond_true,hb,cond_false]
  ·simp only[cond_true,tg,oK j r]
   cases hj:Nat.beq j i
   ·rfl
   ·obtain rfl:=BN.1 hj
    simp only[hb,cond_true]
theorem rG {v:AV} {K:AV->Prop} (h:fV v K):v ≠ .any/\K v:=by
 cases v<;>simp only[fV,IJ]at h<;>first|exact h.elim|exact ⟨(by intro e;cases e),h⟩
theorem rE {v:AV} {K:List AV->Prop} (h:fC v K):v ≠ .any /\ ∃ cs,cellsOf v=some cs/\K cs:=by
 cases v<;>simp only[fC,fV,IJ]at h<;>first|exact h.elim|exact ⟨(by intro e;cases e),_,rfl,h⟩
theorem cY (b:Bool) (K:Bool->Prop):fB b K=K b:=by cases b<;>rfl
theorem Agw {k:Nat} {tm:Tm} {M:Mem} (h:used k tm M=false):G5 k M=false/\JD k tm=false:=by
 unfold used at h;cases h1:G5 k M<;>simp only[h1,cond_true,cond_false]at h
 ·exact ⟨rfl,h⟩
 ·cases h
theorem Afa {tm:Tm} {M:Mem} {K:Nat->Prop} : ∀ {l:List Nat},sK tm M l K -> ∃ k,G5 k M=false/\JD k tm=false/\K k
 | [],h=>h.elim
 | k::r,h=>by
  simp only[sK]at h;cases h0:used k tm M<;>simp only[h0,cond_true,cond_false]at h
  ·exact ⟨k,(Agw h0).1,(Agw h0).2,h⟩
  ·exact Afa h
theorem H4 {s:Nat} {tm:Tm} {M:Mem} {K:Nat->Prop} (h:GG s tm M K) : ∃ k,G5 k M=false/\JD k tm=false/\K k:=Afa h
section
variable {σ:F5}
def C7 (σ:F5) (k:Nat) (f:Nat->Nat × Nat):F5:=λ j t=>if j=k then f t else σ j t
theorem CR {k j:Nat} (f:Nat->Nat × Nat) (h:j≠k):C7 σ k f j=σ j:=by funext t;simp [C7,h]
theorem BU (k:Nat) (f:Nat->Nat × Nat):C7 σ k f k=f:=by funext t;simp [C7]
theorem Mz {k:Nat} {p:Nat->Nat × Nat} {v:AV} (h:aJ k v=false):BA (C7 σ k p) v=BA σ v:=by
 cases v with
 | row j t z o n=>simp only[aJ]at h;simp only[BA,CR p (FR.1 h)]
 | ptr j t a b=>simp only[aJ]at h;simp only[BA,CR p (FR.1 h)]
 | _=>rfl
theorem kW {k:Nat} {p:Nat->Nat × Nat} : ∀ {cs:List AV},JC k cs=false->cs.map (BA (C7 σ k p))=cs.map (BA σ)
 | [],_=>rfl
 | c::r,h=>by
  simp only[JC]at h;cases h1:aJ k c<;>simp only[h1,cond_true,cond_false]at h
  ·rw[List.map_cons,List.map_cons,Mz h1,kW h]
  ·cases h
theorem Mx {k:Nat} {p:Nat->Nat × Nat} : ∀ {es:List (List AV)},OU k es=false->(es.map λ cs=>cs.map (BA (C7 σ k p)))=es.map λ cs=>cs.map (BA σ)
 | [],_=>rfl
 | c::r,h=>by
  simp only[OU]at h;cases h1:JC k c<;>simp only[h1,cond_true,cond_false]at h
  ·rw[List.map_cons,List.map_cons,kW h1,Mx h]
  ·cases h
theorem oH {k:Nat} {p:Nat->Nat × Nat} {v:AV} (h:dK k v=false):BR (C7 σ k p) v=BR σ v:=by
 cases v with
 | agg cs=>simp only[dK]at h;simp only[BR,kW h]
 | fn p f g cs=>simp only[dK]at h;simp only[BR,kW h]
 | row a b c d e=>exact Mz (v := .row a b c d e) h
 | ptr a b c d=>exact Mz (v := .ptr a b c d) h
 | _=>rfl
theorem Af7 {k:Nat} {p:Nat->Nat × Nat} : ∀ {cs:List AV},kR k cs=false->cs.map (BR (C7 σ k p))=cs.map (BR σ)
 | [],_=>rfl
 | c::r,h=>by
  simp only[kR]at h;cases h1:dK k c<;>simp only[h1,cond_true,cond_false]at h
  ·rw[List.map_cons,List.map_cons,oH h1,Af7 h]
  ·cases h
theorem tM {k:Nat} {p:Nat->Nat × Nat} {v:AV} (h:aK k v=false):BI (C7 σ k p) v=BI σ v:=by
 cases v with
 | m9 cs=>simp only[aK]at h;simp only[BI,Af7 h]
 | agg cs=>exact oH (v := .agg cs) h
 | fn p f g cs=>exact oH (v := .fn p f g cs) h
 | row a b c d e=>exact oH (v := .row a b c d e) h
 | ptr a b c d=>exact oH (v := .ptr a b c d) h
 | _=>rfl
theorem kS {k:Nat} : ∀ {tm:Tm},JD k tm=false -> ∀ j,aK k (tg tm j)=false
 | [],_,_=>rfl
 | (i,v)::r,h,j=>by
  simp only[JD]at h;cases h1:aK k v<;>simp only[h1,cond_true,cond_false]at h
  ·simp only[tg]
   cases Nat.beq j i
   ·exact kS h j
   ·exact h1
  ·cases h
theorem bY {k:Nat} : ∀ {M:Mem},G5 k M=false -> ∀ j s c,l6 M j=some (s,c)->j≠k/\HO k c=false
 | [],_,_,_,_,e=>by cases e
 | (i,s0,c0)::r,h,j,s,c,e=>by
  simp only[G5]at h;cases h0:Nat.beq k i<;>simp only[h0,cond_true,cond_false]at h
  ·cases h1:HO k c0<;>simp only[h1,cond_true,cond_false]at h
   ·simp only[l6]at e
    cases h2:Nat.beq j i<;>simp only[h2,cond_true,cond_false]at e
    ·exact bY h j s c e
    ·simp only[Option.some.injEq,Prod.mk.injEq]at e
     obtain ⟨_,rfl⟩:=e;exact ⟨λ e=>FR.1 h0 (e.symm.trans (BN.1 h2)),h1⟩
   ·cases h
  ·cases h
theorem eT {σ σ':F5} {k:Nat} : ∀ (rows:List (Option (Nat × List (List AV)))) (i:Nat),(∀ j,i<=j->σ k (j+1)=σ' k (j+1))->B9 σ k i rows=B9 σ' k i rows
 | [],i,h=>rfl
 | none::r,i,h=>by rw[B9,B9,eT r (i+1) λ j hj=>h j (by omega)]
 | some (z,es)::r,i,h=>by rw[B9,B9,eT r (i+1) λ j hj=>h j (by omega),h i (by omega)]
theorem FD {k:Nat} : ∀ (rows:List (Option (Nat × List (List AV)))) (i j:Nat),(B9 σ k i rows)[j]? = (rows[j]?).map λ r=>match r with|none=>[.nil]|some (z,es)=>[.row (σ k (i+j+1)).1 (σ k (i+j+1)).2 z 0 es.length]
 | [],i,j=>by simp [B9]
 | none::r,i,0=>by simp [B9]
 | none::r,i,j+1=>by simp only[B9,List.getElem?_cons_succ,FD r (i+1) j];rw[show i+1+j=i+(j+1) by omega]
 | some (z,es)::r,i,0=>by simp [B9]
 | some (z,es)::r,i,j+1=>by simp only[B9,List.getElem?_cons_succ,FD r (i+1) j];rw[show i+1+j=i+(j+1) by omega]
theorem FE {k:Nat} : ∀ (rows:List (Option (Nat × List (List AV)))) (i:Nat),(B9 σ k i rows).length=rows.length
 | [],i=>rfl
 | none::r,i=>by simp [B9,FE r]
 | some (z,es)::r,i=>by simp [B9,FE r]
theorem pX {k j:Nat} {f:Nat->Nat × Nat} {c:A9} (h:HO k c=false) (hj:j≠k):c.m5 (C7 σ k f) j=c.m5 σ j:=by
 cases c with
 | bx cs=>simp only[HO]at h;simp only[A9.m5,kW h]
 | rw z es=>rfl
 | bs z es=>simp only[HO]at h;simp only[A9.m5,Mx h]
 | mx rows=>simp only[A9.m5];rw[eT rows 0 λ i _=>by rw[CR f hj]]
 | hx a v rows=>simp only[A9.m5];rw[eT rows 0 λ i _=>by rw[CR f hj]]
 | vw w rows=>simp only[A9.m5];rw[eT rows 0 λ i _=>by rw[CR f hj]]
theorem AjL {v:AV} (h:yi v=true):BA σ v=v:=by cases v<;>first|rfl|cases h
theorem OL : ∀ {cs:List AV},EG cs=true->cs.map (BA σ)=cs
 | [],_=>rfl
 | c::r,h=>by
  simp only[EG]at h;cases h1:yi c<;>simp only[h1,cond_true,cond_false]at h
  ·cases h
  ·rw[List.map_cons,AjL h1,OL h]
theorem AjK {k:Nat} {v:AV} (h:yi v=true):aJ k v=false:=by cases v<;>first|rfl|cases h
theorem vQ {k:Nat} : ∀ {cs:List AV},EG cs=true->JC k cs=false
 | [],_=>rfl
 | c::r,h=>by
  simp only[EG]at h;cases h1:yi c<;>simp only[h1,cond_true,cond_false]at h
  ·cases h
  ·simp only[JC,AjK h1,vQ h,cond_false]
theorem AjE (v:AV):cv v = .any\/(cv v=v/\BI σ v=v):=by
 cases v with
 | agg cs =>
  simp only[cv];cases h:EG cs
  ·exact Or.inl rfl
  ·exact Or.inr ⟨rfl,by simp only[BI,BR,OL h]⟩
 | m9 vs=>cases vs with
  | nil=>exact Or.inr ⟨rfl,rfl⟩
  | cons=>exact Or.inl rfl
 | fn p f g cs=>cases cs with
  | nil=>exact Or.inr ⟨rfl,rfl⟩
  | cons=>exact Or.inl rfl
 | _=>first|exact Or.inl rfl|exact Or.inr ⟨rfl,rfl⟩
theorem Ajw {k:Nat} (v:AV):aK k (cv v)=false:=by
 cases v with
 | agg cs =>
  simp only[cv];cases h:EG cs
  ·rfl
  ·exact vQ h
 | m9 vs=>cases vs<;>rfl
 | fn p f g cs=>cases cs<;>rfl
 | _=>rfl
variable {tm:Tm} {M:Mem} {st:St}
theorem RX.ev (h:RX σ tm M st) {x:AP} {v:AV} (e:ex tm x=v) (hv:v ≠ .any):st.ev x=BI σ v:=by
 cases x with
 | t n =>
  simp only[ex]at e;rcases h.tm n with h|h
  ·exact absurd (e.symm.trans h) hv
  ·rw[e]at h;exact h
 | c u =>
  simp only[ex]at e;rcases AjE (σ:=σ) u with h|⟨h,h'⟩
  ·exact absurd (e.symm.trans h) hv
  ·rw[<-e,h,h'];rfl
theorem Adj {k:Nat} (h:JD k tm=false) (x:AP):aK k (ex tm x)=false:=by
 cases x with
 | t n=>exact kS h n
 | c u=>exact Ajw u
theorem Afs {k:Nat} {v:AV} {cs:List AV} (h:aK k v=false) (e:cellsOf v=some cs):JC k cs=false:=by
 cases v<;>simp only[cellsOf,Option.some.injEq,reduceCtorEq]at e<;>subst e<;>first|exact h|rfl|(simp only[aK,dK]at h;simp only[JC,h,cond_false])
theorem bM {v:AV} {cs:List AV} (e:cellsOf v=some cs):cellsOf (BI σ v)=some (cs.map (BA σ)):=by
 cases v<;>simp only[cellsOf,Option.some.injEq,reduceCtorEq]at e<;>subst e<;>rfl
def A9.flat:A9->Prop
 | .mx rows => ∀ (i:Nat) (x:Nat × List (List AV)),rows[i]? = some (some x)->False
 | .hx _ _ _=>False
 | .vw _ _=>False
 | _=>True
theorem EM {M:Mem} {k s:Nat} {c:A9} (h:l6 M k=some (s,c)):g8 M k 0=some c:=by simp [g8,h]
theorem J4 {M:Mem} {k t:Nat} {c:A9} (h:g8 M k t=some c) : ∃ s c0,l6 M k=some (s,c0)/\(t=0->c=c0)/\(∀ i,t=i+1 -> ∃ rows z es,((c0 = .mx rows \/ ∃ a v,c0 = .hx a v rows) \/ ∃ w,c0 = .vw w rows)/\rows[i]? = some (some (z,es))/\c = .rw z es):=by
 unfold g8 at h;cases hm:l6 M k with
 | none=>simp [hm]at h
 | some x =>
  obtain ⟨s,c0⟩:=x;simp only[hm]at h;refine ⟨s,c0,rfl,?_,?_⟩
  ·rintro rfl;exact (Option.some.inj h).symm
  ·rintro i rfl
   cases c0 with
   | mx rows =>
    simp only at h;cases hr:rows[i]? with
    | none=>simp [hr]at h
    | some r =>
     cases r with
     | none=>simp [hr]at h
     | some ze=>obtain ⟨z,es⟩:=ze;simp only[hr,Option.some.injEq]at h;exact ⟨rows,z,es,Or.inl (Or.inl rfl),hr,h.symm⟩
   | hx a v rows =>
    simp only at h;cases hr:rows[i]? with
    | none=>simp [hr]at h
    | some r =>
     cases r with
     | none=>simp [hr]at h
     | some ze=>obtain ⟨z,es⟩:=ze;simp only[hr,Option.some.injEq]at h;exact ⟨rows,z,es,Or.inl (Or.inr ⟨a,v,rfl⟩),hr,h.symm⟩
   | vw w rows =>
    simp only at h;cases hr:rows[i]? with
    | none=>simp [hr]at h
    | some r =>
     cases r with
     | none=>simp [hr]at h
     | some ze=>obtain ⟨z,es⟩:=ze;simp only[hr,Option.some.injEq]at h;exact ⟨rows,z,es,Or.inr ⟨w,rfl⟩,hr,h.symm⟩
   | _=>simp at h
theorem WO {M:Mem} {k s:Nat} {c:A9} {j t:Nat} (h:j≠k):g8 ((k,s,c)::M) j t=g8 M j t:=by
 simp only[g8,l6,FR.2 h,cond_false]
theorem eP {M:Mem} {k s:Nat} {c:A9}:g8 ((k,s,c)::M) k 0=some c:=by simp [g8,l6]
theorem kE {M:Mem} {k s:Nat} {c:A9} (hc:c.flat) {t:Nat} {c':A9} (h:g8 ((k,s,c)::M) k t=some c'):t=0/\c'=c:=by
 cases t with
 | zero=>rw[eP]at h;exact ⟨rfl,(Option.some.inj h).symm⟩
 | succ i =>
  simp only[g8,l6,Nat.beq_refl,cond_true]at h;cases c with
  | mx rows =>
   simp only at h;split at h
   ·rename_i z es hr
    exact (hc i (z,es) hr).elim
   ·cases h
  | hx a v rows=>exact hc.elim
  | vw w rows=>exact hc.elim
  | _=>simp at h
theorem AoG {σ σ':F5} {k k':Nat} {rows:List (Option (Nat × List (List AV)))} (h:A9.flat (.mx rows)):B9 σ k 0 rows=B9 σ' k' 0 rows:=by
 apply List.ext_getElem?;intro j;rw[FD,FD];cases hr:rows[j]? with
 | none=>rfl
 | some r=>cases r with
  | none=>rfl
  | some x=>exact (h j x hr).elim
theorem RX.kb (h:RX σ tm M st) {s q:Nat} (hm:G5 s M=false) (ht:JD s tm=false) (c:A9) (hf:c.flat) (hc:HO s c=false) (hl:c.ri=true->E3 q=true) :
  RX (C7 σ s λ_=>(q,st.own.n6 q)) tm ((s,q,c)::M) ⟨st.tm,st.own.put q ((st.own q).new (c.m5 σ s))⟩:=by
 have Sj : ∀ j t c',g8 M j t=some c'->((st.own.put q ((st.own q).new (c.m5 σ s))) (σ j t).1).m5 (σ j t).2=(st.own (σ j t).1).m5 (σ j t).2:=by
  intro j t c' e;by_cases hs:(σ j t).1=q
  ·have ho:=h.sat.old _ _ _ e
   rw[hs]at ho ⊢;simp only[AH.o4,CH.new];rw[if_neg (by omega)]
  ·rw[AH.lq _ _ _ _ hs]
 have Es : ∀ s',(st.own s').n6<=((st.own.put q ((st.own q).new (c.m5 σ s))) s').n6:=by
  intro s';by_cases hs:s'=q
  ·subst hs;simp only[AH.o4,CH.new];omega
  ·rw[AH.lq _ _ _ _ hs];exact Nat.le_refl _
 have u7 : ∀ j t c',j≠s->g8 ((s,q,c)::M) j t=some c'->g8 M j t=some c':=λ j t c' hj e=>by rwa [WO hj]at e
 have Fo : ∀ j t c',g8 M j t=some c'->HO s c'=false/\j≠s:=by
  intro j t c' e;obtain ⟨s1,c0,g1,g2,g3⟩:=J4 e;obtain ⟨g4,g5⟩:=bY hm _ _ _ g1;refine ⟨?_,g4⟩;cases t with
  | zero=>rw[g2 rfl];exact g5
  | succ i=>obtain ⟨rows,z,es,_,_,rfl⟩:=g3 i rfl;rfl
 refine ⟨λ j => ?_,⟨?_,?_,?_,?_,?_⟩⟩
 ·rw[tM (kS ht j)];exact h.tm j
 ·intro j s' c' e
  simp only[l6]at e;cases hb:Nat.beq j s<;>simp only[hb,cond_true,cond_false]at e
  ·rw[CR _ (FR.1 hb)];exact h.sat.site _ _ _ e
  ·simp only[Option.some.injEq,Prod.mk.injEq]at e
   obtain ⟨rfl,rfl⟩:=e;rw[BN.1 hb,BU]
 ·intro j t c' e
  by_cases hj:j=s
  ·subst hj
   obtain ⟨rfl,rfl⟩:=kE hf e;have hb:c'.m5 (C7 σ j λ_=>(q,st.own.n6 q)) j=c'.m5 σ j:=by
    cases c' with
    | bx cs=>simp only[HO]at hc;simp only[A9.m5,kW hc]
    | rw z es=>rfl
    | bs z es=>simp only[HO]at hc;simp only[A9.m5,Mx hc]
    | mx rows=>exact congrArg (ED.mk 1) (AoG hf)
    | hx a v rows=>exact hf.elim
    | vw w rows=>exact hf.elim
   rw[BU,hb];simp [AH.o4,CH.new,AH.n6]
  ·have e':=u7 j t c' hj e
   rw[CR _ hj,pX (Fo j t c' e').1 hj];exact (Sj j t c' e').trans (h.sat.m5 _ _ _ e')
 ·intro j t c' e
  by_cases hj:j=s
  ·subst hj
   rw[BU];simp [AH.o4,CH.new,AH.n6]
  ·have e':=u7 j t c' hj e
   rw[CR _ hj];exact Nat.lt_of_lt_of_le (h.sat.old _ _ _ e') (Es _)
 ·have qj : ∀ j t c',g8 M j t=some c'->σ j t=(q,st.own.n6 q)->False:=by
   intro j t c' e hh;have h2:=h.sat.old _ _ _ e;rw[hh]at h2;exact absurd h2 (Nat.lt_irrefl _)
  intro j t j' t' c1 c2 e1 e2 hj;by_cases h1:j=s<;>by_cases h2:j'=s
  ·subst h1;subst h2
   exact ⟨rfl,(kE hf e1).1.trans (kE hf e2).1.symm⟩
  ·subst h1
   rw[BU,CR _ h2]at hj;exact (qj _ _ _ (u7 _ _ _ h2 e2) hj.symm).elim
  ·subst h2
   rw[BU,CR _ h1]at hj;exact (qj _ _ _ (u7 _ _ _ h1 e1) hj).elim
  ·rw[CR _ h1,CR _ h2]at hj
   exact h.sat.inj _ _ _ _ _ _ (u7 _ _ _ h1 e1) (u7 _ _ _ h2 e2) hj
 ·intro j t c' e hw
  by_cases hj:j=s
  ·subst hj
   obtain ⟨rfl,rfl⟩:=kE hf e;rw[BU];exact hl hw
  ·rw[CR _ hj];exact h.sat.low _ _ _ (u7 j t c' hj e) hw
theorem bX {k j:Nat} {x:Nat × A9} : ∀ {M:Mem},l6 (ax k M) j=some x->j≠k/\l6 M j=some x
 | [],e=>by cases e
 | (i,s,c)::r,e=>by
  simp only[ax]at e;cases hb:Nat.beq k i<;>simp only[hb,cond_true,cond_false]at e
  ·simp only[l6]at e ⊢
   cases hj:Nat.beq j i<;>simp only[hj,cond_true,cond_false]at e ⊢
   ·exact bX e
   ·exact ⟨λ e'=>FR.1 hb (e'.symm.trans (BN.1 hj)),e⟩
  ·obtain ⟨h1,h2⟩:=bX e
   refine ⟨h1,?_⟩;simp only[l6];rw[FR.2 (λ e'=>h1 (e'.trans (BN.1 hb).symm))];exact h2
theorem iH {own:AH} {p:Nat × Nat} {x:Option ED} {q:Nat × Nat} (h:q≠p):((own.put p.1 ((own p.1).bg p.2 x)) q.1).m5 q.2=(own q.1).m5 q.2:=by
 by_cases hs:q.1=p.1
 ·rw[hs,AH.o4]
  simp only[CH.bg];rw[if_neg (λ e=>h (Prod.ext hs e))]
 ·rw[AH.lq _ _ _ _ hs]
theorem sN {own:AH} {p:Nat × Nat} {x:Option ED}:((own.put p.1 ((own p.1).bg p.2 x)) p.1).m5 p.2=x:=by simp [AH.o4,CH.bg]
theorem nT {own:AH} {p:Nat × Nat} {x:Option ED} (s:Nat):((own.put p.1 ((own p.1).bg p.2 x)) s).n6=(own s).n6:=by
 by_cases hs:s=p.1
 ·subst hs;rw[AH.o4];rfl
 ·rw[AH.lq _ _ _ _ hs]
theorem RX.Ur (h:RX σ tm M st) {k s:Nat} {c:A9} (e:l6 M k=some (s,c)) (hf:c.flat) (c':A9) (qp:c'.flat) (hir:c'.ri=true->c.ri=true) :
  RX σ tm ((k,s,c')::M) ⟨st.tm,st.own.put s ((st.own s).bg (σ k 0).2 (some (c'.m5 σ k)))⟩:=by
 have hs:=h.sat.site _ _ _ e;subst hs;have e0:=EM e;have hg : ∀ j t c1,g8 ((k,(σ k 0).1,c')::M) j t=some c1->(j=k/\t=0/\c1=c')\/(j≠k/\g8 M j t=some c1):=by
  intro j t c1 e1;by_cases hj:j=k
  ·subst hj
   obtain ⟨rfl,rfl⟩:=kE qp e1;exact Or.inl ⟨rfl,rfl,rfl⟩
  ·rw[WO hj]at e1
   exact Or.inr ⟨hj,e1⟩
 have vk : ∀ j t c1,g8 ((k,(σ k 0).1,c')::M) j t=some c1 -> ∃ c2,g8 M j t=some c2:=by
  intro j t c1 e1;rcases hg j t c1 e1 with ⟨rfl,rfl,rfl⟩|⟨_,h2⟩
  ·exact ⟨c,e0⟩
  ·exact ⟨c1,h2⟩
 refine ⟨h.tm,⟨?_,?_,?_,?_,?_⟩⟩
 ·intro j s' c1 e1
  simp only[l6]at e1;cases hb:Nat.beq j k<;>simp only[hb,cond_true,cond_false]at e1
  ·exact h.sat.site _ _ _ e1
  ·simp only[Option.some.injEq,Prod.mk.injEq]at e1
   rw[BN.1 hb];exact e1.1
 ·intro j t c1 e1
  rcases hg j t c1 e1 with ⟨rfl,rfl,rfl⟩|⟨h1,h2⟩
  ·exact sN
  ·refine (iH (λ he => ?_)).trans (h.sat.m5 _ _ _ h2)
   exact h1 (h.sat.inj _ _ _ _ _ _ h2 e0 he).1
 ·intro j t c1 e1
  obtain ⟨c2,e2⟩:=vk _ _ _ e1;show (σ j t).2<((st.own.put (σ k 0).1 ((st.own (σ k 0).1).bg (σ k 0).2 (some (c'.m5 σ k)))) (σ j t).1).n6;rw[nT];exact h.sat.old _ _ _ e2
 ·intro j t j' t' c1 c2 e1 e2 hj
  obtain ⟨_,Dz⟩:=vk _ _ _ e1;obtain ⟨_,Az⟩:=vk _ _ _ e2;exact h.sat.inj _ _ _ _ _ _ Dz Az hj
 ·intro j t c1 e1 hw
  rcases hg j t c1 e1 with ⟨rfl,rfl,rfl⟩|⟨_,h2⟩
  ·exact h.sat.low _ _ _ e0 (hir hw)
  ·exact h.sat.low _ _ _ h2 hw
theorem zJ {k t:Nat} {c:A9} (h:g8 M k (t+1)=some c):c.ri=true:=by
 obtain ⟨_,_,_,_,g3⟩:=J4 h;obtain ⟨_,_,_,_,_,rfl⟩:=g3 t rfl;rfl
theorem YI {k j t:Nat} {c:A9} (h:g8 (ax k M) j t=some c):j≠k/\g8 M j t=some c:=by
 obtain ⟨s,c0,g1,_⟩:=J4 h;obtain ⟨h1,h2⟩:=bX g1;refine ⟨h1,?_⟩;unfold g8 at h ⊢;rw[g1]at h;rw[h2];exact h
theorem RX.kill (h:RX σ tm M st) {k s:Nat} {c:A9} (e:l6 M k=some (s,c)) :
  RX σ tm (ax k M) ⟨st.tm,st.own.put s ((st.own s).bg (σ k 0).2 none)⟩:=by
 have hs:=h.sat.site _ _ _ e;subst hs;have e0:=EM e;refine ⟨h.tm,⟨?_,?_,?_,?_,?_⟩⟩
 ·intro j s' c1 e1
  exact h.sat.site _ _ _ (bX e1).2
 ·intro j t c1 e1
  obtain ⟨hj,e1⟩:=YI e1;refine (iH (λ he => ?_)).trans (h.sat.m5 _ _ _ e1);exact hj (h.sat.inj _ _ _ _ _ _ e1 e0 he).1
 ·intro j t c1 e1
  obtain ⟨hj,e1⟩:=YI e1;show (σ j t).2<((st.own.put (σ k 0).1 ((st.own (σ k 0).1).bg (σ k 0).2 none)) (σ j t).1).n6;rw[nT];exact h.sat.old _ _ _ e1
 ·intro j t j' t' c1 c2 e1 e2 hj
  exact h.sat.inj _ _ _ _ _ _ (YI e1).2 (YI e2).2 hj
 ·intro j t c1 e1 hw
  exact h.sat.low _ _ _ (YI e1).2 hw
theorem RX.Um (h:RX σ tm M st) {k s i z:Nat} {rows:List (Option (Nat × List (List AV)))} {es es':List (List AV)} (e:l6 M k=some (s,.mx rows)) (hr:rows[i]? = some (some (z,es))) (hl:es'.length=es.length) :
  RX σ tm ((k,s,.mx (rows.set i (some (z,es'))))::M) ⟨st.tm,st.own.put (σ k (i+1)).1 ((st.own (σ k (i+1)).1).bg (σ k (i+1)).2 (some ⟨z,es'⟩))⟩:=by
 have e1:g8 M k (i+1)=some (.rw z es):=by simp [g8,e,hr]
 have hi:i<rows.length:=(zS hr).1;have nv:B9 σ k 0 (rows.set i (some (z,es')))=B9 σ k 0 rows:=by
  apply List.ext_getElem?;intro j;rw[FD,FD];by_cases hj:i=j
  ·subst hj;rw[List.getElem?_set_self hi,hr];simp [hl]
  ·rw[List.getElem?_set_ne hj]
 have hg : ∀ j t c1,g8 ((k,s,.mx (rows.set i (some (z,es'))))::M) j t=some c1->(j=k/\t=i+1/\c1 = .rw z es')\/(¬ (j=k/\t=i+1) /\ ∃ c2,g8 M j t=some c2/\c2.m5 σ j=c1.m5 σ j):=by
  intro j t c1 g;by_cases hj:j=k
  ·subst hj
   cases t with
   | zero =>
    rw[eP]at g;obtain rfl:=Option.some.inj g;exact Or.inr ⟨by omega,_,EM e,by simp only[A9.m5,nv]⟩
   | succ t =>
    simp only[g8,l6,Nat.beq_refl,cond_true]at g;by_cases td:i=t
    ·subst td
     rw[List.getElem?_set_self hi]at g;exact Or.inl ⟨rfl,rfl,(Option.some.inj g).symm⟩
    ·rw[List.getElem?_set_ne td]at g
     refine Or.inr ⟨by omega,c1,?_,rfl⟩;simp only[g8,e];exact g
  ·rw[WO hj]at g
   exact Or.inr ⟨by omega,c1,g,rfl⟩
 have vk : ∀ j t c1,g8 ((k,s,.mx (rows.set i (some (z,es'))))::M) j t=some c1 -> ∃ c2,g8 M j t=some c2:=by
  intro j t c1 g;rcases hg j t c1 g with ⟨rfl,rfl,rfl⟩|⟨_,c2,h2,_⟩
  ·exact ⟨_,e1⟩
  ·exact ⟨c2,h2⟩
 refine ⟨h.tm,⟨?_,?_,?_,?_,?_⟩⟩
 ·intro j s' c1 g
  simp only[l6]at g;cases hb:Nat.beq j k<;>simp only[hb,cond_true,cond_false]at g
  ·exact h.sat.site _ _ _ g
  ·simp only[Option.some.injEq,Prod.mk.injEq]at g
   rw[BN.1 hb,<-g.1];exact h.sat.site _ _ _ e
 ·intro j t c1 g
  rcases hg j t c1 g with ⟨rfl,rfl,rfl⟩|⟨h1,c2,h2,h3⟩
  ·exact sN
  ·rw[<-h3]
   refine (iH (λ he => ?_)).trans (h.sat.m5 _ _ _ h2);exact h1 (h.sat.inj _ _ _ _ _ _ h2 e1 he)
 ·intro j t c1 g
  obtain ⟨c2,e2⟩:=vk _ _ _ g;show (σ j t).2<((st.own.put (σ k (i+1)).1 ((st.own (σ k (i+1)).1).bg (σ k (i+1)).2 (some ⟨z,es'⟩))) (σ j t).1).n6;rw[nT];exact h.sat.old _ _ _ e2
 ·intro j t j' t' c1 c2 g1 g2 hj
  obtain ⟨_,Dz⟩:=vk _ _ _ g1;obtain ⟨_,Az⟩:=vk _ _ _ g2;exact h.sat.inj _ _ _ _ _ _ Dz Az hj
 ·intro j t c1 g hw
  obtain ⟨c2,e2⟩:=vk _ _ _ g;cases t with
  | zero =>
   by_cases hj:j=k
   ·subst hj;exact h.sat.low _ _ _ (EM e) rfl
   ·rw[WO hj]at g;exact h.sat.low _ _ _ g hw
  | succ t=>exact h.sat.low _ _ _ e2 (zJ e2)
section
variable {k:Nat} {f:Nat->Nat × Nat}
theorem My {v:AV} (hf:f 0=σ k 0) (h:cR k v=false):BA (C7 σ k f) v=BA σ v:=by
 cases v with
 | row j t z o n =>
  simp only[cR]at h;cases hb:Nat.beq j k
  ·simp only[BA,CR f (FR.1 hb)]
  ·obtain rfl:=BN.1 hb
   simp only[hb,cond_true]at h;cases t with
   | zero=>simp only[BA,BU,hf]
   | succ t=>cases h
 | ptr j t a b =>
  simp only[cR]at h;cases hb:Nat.beq j k
  ·simp only[BA,CR f (FR.1 hb)]
  ·obtain rfl:=BN.1 hb
   simp only[hb,cond_true]at h;cases t with
   | zero=>simp only[BA,BU,hf]
   | succ t=>cases h
 | _=>rfl
theorem oF (hf:f 0=σ k 0) : ∀ {cs:List AV},bO k cs=false->cs.map (BA (C7 σ k f))=cs.map (BA σ)
 | [],_=>rfl
 | c::r,h=>by
  simp only[bO]at h;cases h1:cR k c<;>simp only[h1,cond_true,cond_false]at h
  ·rw[List.map_cons,List.map_cons,My hf h1,oF hf h]
  ·cases h
theorem Af4 (hf:f 0=σ k 0) : ∀ {es:List (List AV)},jJ k es=false->(es.map λ cs=>cs.map (BA (C7 σ k f)))=es.map λ cs=>cs.map (BA σ)
 | [],_=>rfl
 | c::r,h=>by
  simp only[jJ]at h;cases h1:bO k c<;>simp only[h1,cond_true,cond_false]at h
  ·rw[List.map_cons,List.map_cons,oF hf h1,Af4 hf h]
  ·cases h
theorem oG {v:AV} (hf:f 0=σ k 0) (h:gI k v=false):BR (C7 σ k f) v=BR σ v:=by
 cases v with
 | agg cs=>simp only[gI]at h;simp only[BR,oF hf h]
 | fn p f g cs=>simp only[gI]at h;simp only[BR,oF hf h]
 | row a b c d e=>exact My (v := .row a b c d e) hf h
 | ptr a b c d=>exact My (v := .ptr a b c d) hf h
 | _=>rfl
theorem Af5 (hf:f 0=σ k 0) : ∀ {cs:List AV},jI k cs=false->cs.map (BR (C7 σ k f))=cs.map (BR σ)
 | [],_=>rfl
 | c::r,h=>by
  simp only[jI]at h;cases h1:gI k c<;>simp only[h1,cond_true,cond_false]at h
  ·rw[List.map_cons,List.map_cons,oG hf h1,Af5 hf h]
  ·cases h
theorem Af8 {v:AV} (hf:f 0=σ k 0) (h:dZ k v=false):BI (C7 σ k f) v=BI σ v:=by
 cases v with
 | m9 cs=>simp only[dZ]at h;simp only[BI,Af5 hf h]
 | agg cs=>exact oG (v := .agg cs) hf h
 | fn p f g cs=>exact oG (v := .fn p f g cs) hf h
 | row a b c d e=>exact oG (v := .row a b c d e) hf h
 | ptr a b c d=>exact oG (v := .ptr a b c d) hf h
 | _=>rfl
theorem vC : ∀ {tm:Tm},PL k tm=false -> ∀ j,dZ k (tg tm j)=false
 | [],_,_=>rfl
 | (i,v)::r,h,j=>by
  simp only[PL]at h;cases h1:dZ k v<;>simp only[h1,cond_true,cond_false]at h
  ·simp only[tg]
   cases Nat.beq j i
   ·exact vC h j
   ·exact h1
  ·cases h
theorem vB : ∀ {M:Mem},JY k M=false -> ∀ j s c,l6 M j=some (s,c)->bN k c=false
 | [],_,_,_,_,e=>by cases e
 | (i,s0,c0)::r,h,j,s,c,e=>by
  simp only[JY]at h;cases h1:bN k c0<;>simp only[h1,cond_true,cond_false]at h
  ·simp only[l6]at e
   cases h2:Nat.beq j i<;>simp only[h2,cond_true,cond_false]at e
   ·exact vB h j s c e
   ·simp only[Option.some.injEq,Prod.mk.injEq]at e
    obtain ⟨_,rfl⟩:=e;exact h1
  ·cases h
theorem Vx {c:A9} {j:Nat} (hf:f 0=σ k 0) (h:bN k c=false) (hj:j≠k):c.m5 (C7 σ k f) j=c.m5 σ j:=by
 cases c with
 | bx cs=>simp only[bN]at h;simp only[A9.m5,oF hf h]
 | rw z es=>rfl
 | bs z es=>simp only[bN]at h;simp only[A9.m5,Af4 hf h]
 | mx rows=>simp only[A9.m5];rw[eT rows 0 λ i _=>by rw[CR f hj]]
 | hx a v rows=>simp only[A9.m5];rw[eT rows 0 λ i _=>by rw[CR f hj]]
 | vw w rows=>simp only[A9.m5];rw[eT rows 0 λ i _=>by rw[CR f hj]]
end
theorem RX.Fv (h:RX σ tm M st) {k k2 s s2 i z:Nat} {rows:List (Option (Nat × List (List AV)))} {es:List (List AV)} {c0:A9} (e:l6 M k=some (s,c0)) (gx:c0 = .mx rows \/ ∃ v,c0 = .hx i v rows) (e2:l6 M k2=some (s2,.rw z es)) (hk:k≠k2) (gf:PL k tm=false) (pf:JY k M=false) (hi:i<rows.length) :
  RX (C7 σ k λ t=>if t=i+1 then σ k2 0 else σ k t) tm ((k,s,.mx (rows.set i (some (z,es))))::ax k2 M) ⟨st.tm,st.own.put s ((st.own s).bg (σ k 0).2 (some ⟨1,(B9 σ k 0 rows).set i [.row (σ k2 0).1 (σ k2 0).2 z 0 es.length]⟩))⟩:=by
 have hs:=h.sat.site _ _ _ e;subst hs;have r0:=EM e;have r2:=EM e2;have f0:(λ t=>if t=i+1 then σ k2 0 else σ k t) 0=σ k 0:=by simp
 have nv:B9 (C7 σ k λ t=>if t=i+1 then σ k2 0 else σ k t) k 0 (rows.set i (some (z,es)))=(B9 σ k 0 rows).set i [.row (σ k2 0).1 (σ k2 0).2 z 0 es.length]:=by
  apply List.ext_getElem?;intro j;rw[FD,BU];by_cases hj:i=j
  ·subst hj
   rw[List.getElem?_set_self hi,List.getElem?_set_self (by rw[FE];exact hi)];simp
  ·rw[List.getElem?_set_ne hj,List.getElem?_set_ne hj,FD]
   congr 1;funext r
   cases r with
   | none=>rfl
   | some x=>simp only[Nat.zero_add];rw[if_neg (by omega)]
 have hg : ∀ j t c,g8 ((k,(σ k 0).1,.mx (rows.set i (some (z,es))))::ax k2 M) j t=some c ->
   (j=k/\t=0/\c = .mx (rows.set i (some (z,es))))\/(j=k/\t=i+1/\c = .rw z es)\/(j=k/\t≠0/\t≠i+1/\g8 M k t=some c)\/(j≠k/\j≠k2/\g8 M j t=some c):=by
  intro j t c g;by_cases hj:j=k
  ·subst hj
   cases t with
   | zero=>rw[eP]at g;exact Or.inl ⟨rfl,rfl,(Option.some.inj g).symm⟩
   | succ t =>
    simp only[g8,l6,Nat.beq_refl,cond_true]at g;by_cases td:i=t
    ·subst td
     rw[List.getElem?_set_self hi]at g;exact Or.inr (Or.inl ⟨rfl,rfl,(Option.some.inj g).symm⟩)
    ·rw[List.getElem?_set_ne td]at g
     refine Or.inr (Or.inr (Or.inl ⟨rfl,by omega,by omega,?_⟩));rcases gx with rfl|⟨v,rfl⟩
     ·simp only[g8,e]
      exact g
     ·simp only[g8,e]
      exact g
  ·rw[WO hj]at g
   obtain ⟨g1,g2⟩:=YI g;exact Or.inr (Or.inr (Or.inr ⟨hj,g1,g2⟩))
 have Qx : ∀ j t c,g8 M j t=some c->bN k c=false:=by
  intro j t c g;obtain ⟨s1,c0,g1,g2,g3⟩:=J4 g;cases t with
  | zero=>rw[g2 rfl];exact vB pf _ _ _ g1
  | succ t=>obtain ⟨_,_,_,_,_,rfl⟩:=g3 t rfl;rfl
 refine ⟨λ j => ?_,⟨?_,?_,?_,?_,?_⟩⟩
 ·rw[Af8 (f:=λ t=>if t=i+1 then σ k2 0 else σ k t) f0 (vC gf j)];exact h.tm j
 ·intro j s' c g
  simp only[l6]at g;cases hb:Nat.beq j k<;>simp only[hb,cond_true,cond_false]at g
  ·rw[CR _ (FR.1 hb)];exact h.sat.site _ _ _ (bX g).2
  ·simp only[Option.some.injEq,Prod.mk.injEq]at g
   rw[BN.1 hb,BU,<-g.1];simp
 ·intro j t c g
  rcases hg j t c g with ⟨rfl,rfl,rfl⟩|⟨rfl,rfl,rfl⟩|⟨rfl,h0,h1,g2⟩|⟨h0,h1,g2⟩
  ·rw[BU]
   simp only[A9.m5,nv];exact sN
  ·rw[BU]
   simp only[if_true];exact (iH (λ he=>hk (h.sat.inj _ _ _ _ _ _ r2 r0 he).1.symm)).trans (h.sat.m5 _ _ _ r2)
  ·rw[BU]
   simp only[h1,if_false];have hb:c.m5 (C7 σ j λ t=>if t=i+1 then σ k2 0 else σ j t) j=c.m5 σ j:=by
    obtain ⟨_,_,_,_,g3⟩:=J4 g2;obtain ⟨t',rfl⟩ : ∃ t',t=t'+1:=⟨t-1,by omega⟩;obtain ⟨_,_,_,_,_,rfl⟩:=g3 t' rfl;rfl
   rw[hb];exact (iH (λ he=>h0 (h.sat.inj _ _ _ _ _ _ g2 r0 he).2)).trans (h.sat.m5 _ _ _ g2)
  ·rw[CR _ h0,Vx (f:=λ t=>if t=i+1 then σ k2 0 else σ k t) f0 (Qx _ _ _ g2) h0]
   exact (iH (λ he=>h0 (h.sat.inj _ _ _ _ _ _ g2 r0 he).1)).trans (h.sat.m5 _ _ _ g2)
 ·intro j t c g
  rw[nT];rcases hg j t c g with ⟨rfl,rfl,rfl⟩|⟨rfl,rfl,rfl⟩|⟨rfl,h0,h1,g2⟩|⟨h0,h1,g2⟩
  ·rw[BU];simpa using h.sat.old _ _ _ r0
  ·rw[BU];simpa using h.sat.old _ _ _ r2
  ·rw[BU];simp only[h1,if_false];exact h.sat.old _ _ _ g2
  ·rw[CR _ h0];exact h.sat.old _ _ _ g2
 ·-- each name is that of Hd in the old memory
  have hold : ∀ j t c,g8 ((k,(σ k 0).1,.mx (rows.set i (some (z,es))))::ax k2 M) j t=some c -> ∃ j0 t0 c0,g8 M j0 t0=some c0/\(C7 σ k λ t=>if t=i+1 then σ k2 0 else σ k t) j t=σ j0 t0/\((j0=k2/\t0=0/\j=k/\t=i+1)\/(j0=j/\t0=t/\j≠k2)):=by
   intro j t c g;rcases hg j t c g with ⟨rfl,rfl,rfl⟩|⟨rfl,rfl,rfl⟩|⟨rfl,h0,h1,g2⟩|⟨h0,h1,g2⟩
   ·exact ⟨_,_,_,r0,by rw[BU];simp,Or.inr ⟨rfl,rfl,hk⟩⟩
   ·exact ⟨_,_,_,r2,by rw[BU];simp,Or.inl ⟨rfl,rfl,rfl,rfl⟩⟩
   ·exact ⟨_,_,_,g2,by rw[BU];simp [h1],Or.inr ⟨rfl,rfl,hk⟩⟩
   ·exact ⟨_,_,_,g2,by rw[CR _ h0],Or.inr ⟨rfl,rfl,h1⟩⟩
  intro j t j' t' c c' g g' hj;obtain ⟨j0,t0,c0,a1,a2,a3⟩:=hold j t c g;obtain ⟨j1,t1,c1,b1,b2,b3⟩:=hold j' t' c' g';rw[a2,b2]at hj;obtain ⟨q1,q2⟩:=h.sat.inj _ _ _ _ _ _ a1 b1 hj;rcases a3 with ⟨x1,x2,x3,x4⟩|⟨x1,x2,x3⟩<;>rcases b3 with ⟨y1,y2,y3,y4⟩|⟨y1,y2,y3⟩
  ·exact ⟨x3.trans y3.symm,x4.trans y4.symm⟩
  ·exact absurd (y1.symm.trans (q1.symm.trans x1)) y3
  ·exact absurd (x1.symm.trans (q1.trans y1)) x3
  ·exact ⟨x1.symm.trans (q1.trans y1),x2.symm.trans (q2.trans y2)⟩
 ·intro j t c g hw
  rcases hg j t c g with ⟨rfl,rfl,rfl⟩|⟨rfl,rfl,rfl⟩|⟨rfl,h0,h1,g2⟩|⟨h0,h1,g2⟩
  ·rw[BU];simpa using h.sat.low _ _ _ r0 (by rcases gx with rfl|⟨v,rfl⟩<;>rfl)
  ·rw[BU];simpa using h.sat.low _ _ _ r2 rfl
  ·rw[BU];simp only[h1,if_false];exact h.sat.low _ _ _ g2 hw
  ·rw[CR _ h0];exact h.sat.low _ _ _ g2 hw
theorem hH {own:AH} {q t:Nat} {b:ED} {p:Nat × Nat} (h:p≠(q,t)) (ho:p.2<(own p.1).n6):((own.put q (((own q).bg t none).new b)) p.1).m5 p.2=(own p.1).m5 p.2:=by
 by_cases hs:p.1=q
 ·rw[hs]at ho ⊢
  rw[AH.o4];simp only[CH.new,CH.bg];have h1 : ¬ p.2=(own q).n6:=by omega
  have h2 : ¬ p.2=t:=λ e=>h (Prod.ext hs e)
  simp only[h1,h2,if_false]
 ·rw[AH.lq _ _ _ _ hs]
theorem hJ {own:AH} {q t:Nat} {b:ED} (s:Nat):(own s).n6<=((own.put q (((own q).bg t none).new b)) s).n6:=by
 by_cases hs:s=q
 ·subst hs;rw[AH.o4];simp only[CH.new,CH.bg];omega
 ·rw[AH.lq _ _ _ _ hs];exact Nat.le_refl _
theorem RX.Ow (h:RX σ tm M st) {s key sk i z:Nat} {rows:List (Option (Nat × List (List AV)))} {es es':List (List AV)} (e:l6 M key=some (sk,.mx rows)) (hr:rows[i]? = some (some (z,es))) (hm:G5 s M=false) (ht:JD s tm=false) :
  RX (C7 σ s λ_=>((σ key (i+1)).1,st.own.n6 (σ key (i+1)).1)) tm ((s,(σ key (i+1)).1,.rw z es')::(key,sk,.hx i (.row (σ key (i+1)).1 (σ key (i+1)).2 z 0 es.length) (rows.set i none))::ax key M)
   ⟨st.tm,st.own.put (σ key (i+1)).1 (((st.own (σ key (i+1)).1).bg (σ key (i+1)).2 none).new ⟨z,es'⟩)⟩:=by
 have r0:=EM e;have e1:g8 M key (i+1)=some (.rw z es):=by simp [g8,e,hr]
 have hi:i<rows.length:=(zS hr).1;have Iw:key≠s:=(bY hm _ _ _ e).1;have nv:(B9 (C7 σ s λ_=>((σ key (i+1)).1,st.own.n6 (σ key (i+1)).1)) key 0 (rows.set i none)).set i [.row (σ key (i+1)).1 (σ key (i+1)).2 z 0 es.length]=B9 σ key 0 rows:=by
  apply List.ext_getElem?;intro j;by_cases hj:i=j
  ·subst hj
   rw[List.getElem?_set_self (by rw[FE,List.length_set];exact hi),FD,hr];simp
  ·rw[List.getElem?_set_ne hj,FD,FD,List.getElem?_set_ne hj,CR _ Iw]
 have Fo : ∀ j t c',g8 M j t=some c'->HO s c'=false/\j≠s:=by
  intro j t c' g;obtain ⟨s1,c0,g1,g2,g3⟩:=J4 g;obtain ⟨g4,g5⟩:=bY hm _ _ _ g1;refine ⟨?_,g4⟩;cases t with
  | zero=>rw[g2 rfl];exact g5
  | succ i=>obtain ⟨rows,z,es,_,_,rfl⟩:=g3 i rfl;rfl
 have hg : ∀ j t c,g8 ((s,(σ key (i+1)).1,.rw z es')::(key,sk,.hx i (.row (σ key (i+1)).1 (σ key (i+1)).2 z 0 es.length) (rows.set i none))::ax key M) j t=some c ->
   (j=s/\t=0/\c = .rw z es')\/(j=key/\t=0/\c = .hx i (.row (σ key (i+1)).1 (σ key (i+1)).2 z 0 es.length) (rows.set i none))\/(j≠s /\ ¬ (j=key/\t=0) /\ ¬ (j=key/\t=i+1)/\(j=key -> ∃ z es,c = .rw z es)/\g8 M j t=some c):=by
  intro j t c g;by_cases hj:j=s
  ·subst hj
   obtain ⟨rfl,rfl⟩:=kE (c := .rw z es') trivial g;exact Or.inl ⟨rfl,rfl,rfl⟩
  ·rw[WO hj]at g
   by_cases hk:j=key
   ·subst hk
    cases t with
    | zero=>rw[eP]at g;exact Or.inr (Or.inl ⟨rfl,rfl,(Option.some.inj g).symm⟩)
    | succ t =>
     simp only[g8,l6,Nat.beq_refl,cond_true]at g;by_cases td:i=t
     ·subst td
      rw[List.getElem?_set_self hi]at g;cases g
     ·rw[List.getElem?_set_ne td]at g
      refine Or.inr (Or.inr ⟨hj,by omega,by omega,λ_ => ?_,?_⟩)
      ·split at g
       ·exact ⟨_,_,(Option.some.inj g).symm⟩
       ·cases g
      ·simp only[g8,e]
       exact g
   ·rw[WO hk]at g
    obtain ⟨g1,g2⟩:=YI g;exact Or.inr (Or.inr ⟨hj,by omega,by omega,λ h=>absurd h hk,g2⟩)
 refine ⟨λ j => ?_,⟨?_,?_,?_,?_,?_⟩⟩
 ·rw[tM (kS ht j)];exact h.tm j
 ·intro j s1 c g
  simp only[l6]at g;cases hb:Nat.beq j s<;>simp only[hb,cond_true,cond_false]at g
  ·rw[CR _ (FR.1 hb)]
   cases bn:Nat.beq j key<;>simp only[bn,cond_true,cond_false]at g
   ·exact h.sat.site _ _ _ (bX g).2
   ·simp only[Option.some.injEq,Prod.mk.injEq]at g
    rw[BN.1 bn,<-g.1];exact h.sat.site _ _ _ e
  ·simp only[Option.some.injEq,Prod.mk.injEq]at g
   rw[BN.1 hb,BU,<-g.1]
 ·intro j t c g
  rcases hg j t c g with ⟨rfl,rfl,rfl⟩|⟨rfl,rfl,rfl⟩|⟨h0,h1,h2,h3,g2⟩
  ·rw[BU]
   simp [AH.o4,CH.new,AH.n6,CH.bg,A9.m5]
  ·rw[CR _ Iw]
   simp only[A9.m5,nv];exact (hH (λ he=>absurd (h.sat.inj _ _ _ _ _ _ r0 e1 he).2 (by omega)) (h.sat.old _ _ _ r0)).trans (h.sat.m5 _ _ _ r0)
  ·rw[CR _ h0,pX (Fo _ _ _ g2).1 h0]
   exact (hH (λ he=>h2 (h.sat.inj _ _ _ _ _ _ g2 e1 he)) (h.sat.old _ _ _ g2)).trans (h.sat.m5 _ _ _ g2)
 ·intro j t c g
  rcases hg j t c g with ⟨rfl,rfl,rfl⟩|⟨rfl,rfl,rfl⟩|⟨h0,h1,h2,h3,g2⟩
  ·rw[BU]
   simp [AH.o4,CH.new,AH.n6,CH.bg]
  ·rw[CR _ Iw]
   exact Nat.lt_of_lt_of_le (h.sat.old _ _ _ r0) (hJ _)
  ·rw[CR _ h0]
   exact Nat.lt_of_lt_of_le (h.sat.old _ _ _ g2) (hJ _)
 ·have hold : ∀ j t c,g8 ((s,(σ key (i+1)).1,.rw z es')::(key,sk,.hx i (.row (σ key (i+1)).1 (σ key (i+1)).2 z 0 es.length) (rows.set i none))::ax key M) j t=some c->(j=s/\t=0)\/(j≠s /\ ∃ c0,g8 M j t=some c0):=by
   intro j t c g;rcases hg j t c g with ⟨rfl,rfl,rfl⟩|⟨rfl,rfl,rfl⟩|⟨h0,h1,h2,h3,g2⟩
   ·exact Or.inl ⟨rfl,rfl⟩
   ·exact Or.inr ⟨Iw,_,r0⟩
   ·exact Or.inr ⟨h0,_,g2⟩
  have rj : ∀ j0 t0 c0,g8 M j0 t0=some c0->((σ key (i+1)).1,st.own.n6 (σ key (i+1)).1)≠σ j0 t0:=by
   intro j0 t0 c0 g he;have:=h.sat.old _ _ _ g
   rw[<-he]at this;exact absurd this (Nat.lt_irrefl _)
  intro j t j' t' c c' g g' hj;rcases hold j t c g with ⟨rfl,rfl⟩|⟨a1,c1,a2⟩<;>rcases hold j' t' c' g' with ⟨rfl,rfl⟩|⟨b1,c2,b2⟩
  ·exact ⟨rfl,rfl⟩
  ·rw[BU,CR _ b1]at hj;exact absurd hj (rj _ _ _ b2)
  ·rw[BU,CR _ a1]at hj;exact absurd hj.symm (rj _ _ _ a2)
  ·rw[CR _ a1,CR _ b1]at hj
   exact h.sat.inj _ _ _ _ _ _ a2 b2 hj
 ·intro j t c g hw
  rcases hg j t c g with ⟨rfl,rfl,rfl⟩|⟨rfl,rfl,rfl⟩|⟨h0,h1,h2,h3,g2⟩
  ·rw[BU];exact h.sat.low _ _ _ e1 rfl
  ·rw[CR _ Iw];exact h.sat.low _ _ _ r0 rfl
  ·rw[CR _ h0];exact h.sat.low _ _ _ g2 hw
theorem RX.view (h:RX σ tm M st) {k s:Nat} {c0:A9} {rows:List (Option (Nat × List (List AV)))} {w:List Nat} (e:l6 M k=some (s,c0)) (gx:c0 = .mx rows \/ ∃ w0,c0 = .vw w0 rows) :
  RX σ tm ((k,s,.vw w rows)::M) ⟨st.tm,st.own.put s ((st.own s).bg (σ k 0).2 (some (A9.m5 σ k (.vw w rows))))⟩:=by
 have hs:=h.sat.site _ _ _ e;subst hs;have r0:=EM e;have hg : ∀ j t c,g8 ((k,(σ k 0).1,.vw w rows)::M) j t=some c->(j=k/\t=0/\c = .vw w rows)\/(¬ (j=k/\t=0)/\g8 M j t=some c):=by
  intro j t c g;by_cases hj:j=k
  ·subst hj
   cases t with
   | zero=>rw[eP]at g;exact Or.inl ⟨rfl,rfl,(Option.some.inj g).symm⟩
   | succ t =>
    refine Or.inr ⟨by omega,?_⟩;simp only[g8,l6,Nat.beq_refl,cond_true]at g;rcases gx with rfl|⟨w0,rfl⟩
    ·simp only[g8,e]
     exact g
    ·simp only[g8,e]
     exact g
  ·rw[WO hj]at g
   exact Or.inr ⟨by omega,g⟩
 have vk : ∀ j t c1,g8 ((k,(σ k 0).1,.vw w rows)::M) j t=some c1 -> ∃ c2,g8 M j t=some c2:=by
  intro j t c1 g;rcases hg j t c1 g with ⟨rfl,rfl,rfl⟩|⟨_,h2⟩
  ·exact ⟨_,r0⟩
  ·exact ⟨_,h2⟩
 refine ⟨h.tm,⟨?_,?_,?_,?_,?_⟩⟩
 ·intro j s' c1 g
  simp only[l6]at g;cases hb:Nat.beq j k<;>simp only[hb,cond_true,cond_false]at g
  ·exact h.sat.site _ _ _ g
  ·simp only[Option.some.injEq,Prod.mk.injEq]at g
   rw[BN.1 hb];exact g.1
 ·intro j t c1 g
  rcases hg j t c1 g with ⟨rfl,rfl,rfl⟩|⟨h1,h2⟩
  ·exact sN
  ·refine (iH (λ he => ?_)).trans (h.sat.m5 _ _ _ h2)
   exact h1 (h.sat.inj _ _ _ _ _ _ h2 r0 he)
 ·intro j t c1 g
  obtain ⟨c2,e2⟩:=vk _ _ _ g;show (σ j t).2<((st.own.put (σ k 0).1 ((st.own (σ k 0).1).bg (σ k 0).2 _)) (σ j t).1).n6;rw[nT];exact h.sat.old _ _ _ e2
 ·intro j t j' t' c1 c2 g1 g2 hj
  obtain ⟨_,Dz⟩:=vk _ _ _ g1;obtain ⟨_,Az⟩:=vk _ _ _ g2;exact h.sat.inj _ _ _ _ _ _ Dz Az hj
 ·intro j t c1 g hw
  rcases hg j t c1 g with ⟨rfl,rfl,rfl⟩|⟨_,h2⟩
  ·exact h.sat.low _ _ _ r0 (by rcases gx with rfl|⟨w0,rfl⟩<;>rfl)
  ·exact h.sat.low _ _ _ h2 hw
theorem RX.Fx (h:RX σ tm M st) {k s:Nat} {rows bj:List (Option (Nat × List (List AV)))} {w:List Nat} (e:l6 M k=some (s,.vw w rows)) (hl:bj.length=w.length)
  (hw : ∀ (i t:Nat),w[i]? = some t -> ∃ r,rows[t]? = some r/\bj[i]? = some r) (hi : ∀ (i i' t:Nat),w[i]? = some t->w[i']? = some t->i=i') (gf:PL k tm=false) (pf:JY k M=false) :
  ∃ σ',RX σ' tm ((k,s,.mx bj)::M) st:=by
 have hs:=h.sat.site _ _ _ e;subst hs;have r0:=EM e;obtain ⟨f,hf⟩ : ∃ f:Nat->Nat × Nat,f=λ t=>match t with|0=>σ k 0|i+1=>match w[i]? with|some v=>σ k (v+1)|none=>σ k (i+1):=⟨_,rfl⟩
 have f0:f 0=σ k 0:=by rw[hf]
 have f1 : ∀ i v,w[i]? = some v->f (i+1)=σ k (v+1):=λ i v hv=>by rw[hf];simp only[hv]
 have Qx : ∀ j t c,g8 M j t=some c->bN k c=false:=by
  intro j t c g;obtain ⟨s1,c0,g1,g2,g3⟩:=J4 g;cases t with
  | zero=>rw[g2 rfl];exact vB pf _ _ _ g1
  | succ t=>obtain ⟨_,_,_,_,_,rfl⟩:=g3 t rfl;rfl
 have Fs : ∀ i,i<bj.length -> ∃ v r,w[i]? = some v/\rows[v]? = some r/\bj[i]? = some r:=λ i hi=>by
  obtain ⟨v,hv⟩ : ∃ v,w[i]? = some v:=⟨_,zE (by omega)⟩;obtain ⟨r,h1,h2⟩:=hw i v hv;exact ⟨v,r,hv,h1,h2⟩
 have nv:B9 (C7 σ k f) k 0 bj=w.map λ t=>((B9 σ k 0 rows)[t]?).getD []:=by
  apply List.ext_getElem?;intro i;rw[FD,BU,List.getElem?_map];by_cases eb:i<bj.length
  ·obtain ⟨v,r,h1,h2,h3⟩:=Fs i eb
   rw[h3,h1,Option.map_some,Option.map_some,FD,h2,Option.map_some,Option.getD_some,Nat.zero_add,Nat.zero_add,f1 i v h1]
  ·rw[List.getElem?_eq_none (by omega),List.getElem?_eq_none (by omega)];rfl
 have hg : ∀ j t c,g8 ((k,(σ k 0).1,.mx bj)::M) j t=some c ->
   (j=k/\t=0/\c = .mx bj)\/(∃ i v,j=k/\t=i+1/\w[i]? = some v/\g8 M k (v+1)=some c)\/(j≠k/\g8 M j t=some c):=by
  intro j t c g;by_cases hj:j=k
  ·subst hj
   cases t with
   | zero=>rw[eP]at g;exact Or.inl ⟨rfl,rfl,(Option.some.inj g).symm⟩
   | succ t =>
    simp only[g8,l6,Nat.beq_refl,cond_true]at g;by_cases fm:t<bj.length
    ·obtain ⟨v,r,h1,h2,h3⟩:=Fs t fm
     refine Or.inr (Or.inl ⟨t,v,rfl,rfl,h1,?_⟩);rw[h3]at g;simp only[g8,e,h2];exact g
    ·rw[List.getElem?_eq_none (by omega)]at g;cases g
  ·rw[WO hj]at g
   exact Or.inr (Or.inr ⟨hj,g⟩)
 have Lj : ∀ v c,g8 M k (v+1)=some c -> ∃ z es,c = .rw z es:=λ v c g=>by
  obtain ⟨_,_,_,_,g3⟩:=J4 g;obtain ⟨_,z,es,_,_,rfl⟩:=g3 v rfl;exact ⟨z,es,rfl⟩
 refine ⟨C7 σ k f,λ j => ?_,⟨?_,?_,?_,?_,?_⟩⟩
 ·rw[Af8 f0 (vC gf j)];exact h.tm j
 ·intro j s' c g
  simp only[l6]at g;cases hb:Nat.beq j k<;>simp only[hb,cond_true,cond_false]at g
  ·rw[CR _ (FR.1 hb)];exact h.sat.site _ _ _ g
  ·simp only[Option.some.injEq,Prod.mk.injEq]at g
   rw[BN.1 hb,BU,<-g.1,f0]
 ·intro j t c g
  rcases hg j t c g with ⟨rfl,rfl,rfl⟩|⟨i,v,rfl,rfl,h1,g2⟩|⟨h0,g2⟩
  ·rw[BU,f0]
   have:=h.sat.m5 _ _ _ r0
   simp only[A9.m5,nv]at this ⊢;exact this
  ·rw[BU,f1 i v h1]
   obtain ⟨z,es,rfl⟩:=Lj v c g2;exact h.sat.m5 _ _ _ g2
  ·rw[CR _ h0,Vx f0 (Qx _ _ _ g2) h0]
   exact h.sat.m5 _ _ _ g2
 ·intro j t c g
  rcases hg j t c g with ⟨rfl,rfl,rfl⟩|⟨i,v,rfl,rfl,h1,g2⟩|⟨h0,g2⟩
  ·rw[BU,f0];exact h.sat.old _ _ _ r0
  ·rw[BU,f1 i v h1];exact h.sat.old _ _ _ g2
  ·rw[CR _ h0];exact h.sat.old _ _ _ g2
 ·have hold : ∀ j t c,g8 ((k,(σ k 0).1,.mx bj)::M) j t=some c -> ∃ j0 t0 c0,g8 M j0 t0=some c0/\(C7 σ k f) j t=σ j0 t0/\((j=k/\j0=k/\((t=0/\t0=0) \/ ∃ i v,t=i+1/\t0=v+1/\w[i]? = some v))\/(j≠k/\j0=j/\t0=t)):=by
   intro j t c g;rcases hg j t c g with ⟨rfl,rfl,rfl⟩|⟨i,v,rfl,rfl,h1,g2⟩|⟨h0,g2⟩
   ·exact ⟨_,_,_,r0,by rw[BU,f0],Or.inl ⟨rfl,rfl,Or.inl ⟨rfl,rfl⟩⟩⟩
   ·exact ⟨_,_,_,g2,by rw[BU,f1 i v h1],Or.inl ⟨rfl,rfl,Or.inr ⟨i,v,rfl,rfl,h1⟩⟩⟩
   ·exact ⟨_,_,_,g2,by rw[CR _ h0],Or.inr ⟨h0,rfl,rfl⟩⟩
  intro j t j' t' c c' g g' hj;obtain ⟨j0,t0,c0,a1,a2,a3⟩:=hold j t c g;obtain ⟨j1,t1,c1,b1,b2,b3⟩:=hold j' t' c' g';rw[a2,b2]at hj;obtain ⟨q1,q2⟩:=h.sat.inj _ _ _ _ _ _ a1 b1 hj;rcases a3 with ⟨x1,x2,x3⟩|⟨x1,x2,x3⟩<;>rcases b3 with ⟨y1,y2,y3⟩|⟨y1,y2,y3⟩
  ·refine ⟨x1.trans y1.symm,?_⟩
   rcases x3 with ⟨x4,x5⟩|⟨i,v,x4,x5,x6⟩<;>rcases y3 with ⟨y4,y5⟩|⟨i',v',y4,y5,y6⟩
   ·omega
   ·omega
   ·omega
   ·obtain rfl:v=v':=by omega
    have:=hi i i' v x6 y6
    omega
  ·exact absurd (y2.symm.trans (q1.symm.trans x2)) y1
  ·exact absurd (x2.symm.trans (q1.trans y2)) x1
  ·exact ⟨x2.symm.trans (q1.trans y2),x3.symm.trans (q2.trans y3)⟩
 ·intro j t c g hw
  rcases hg j t c g with ⟨rfl,rfl,rfl⟩|⟨i,v,rfl,rfl,h1,g2⟩|⟨h0,g2⟩
  ·rw[BU,f0];exact h.sat.low _ _ _ r0 rfl
  ·rw[BU,f1 i v h1];exact h.sat.low _ _ _ g2 (zJ g2)
  ·rw[CR _ h0];exact h.sat.low _ _ _ g2 hw
theorem RX.Oz (h:RX σ tm M st) {s key s':Nat} {rows:List (Option (Nat × List (List AV)))} (e:l6 M key=some (s',.mx rows)) (hm:G5 s M=false) (ht:JD s tm=false) :
  RX (C7 σ s λ t=>match t with|0=>(s',st.own.n6 s')|i+1=>σ key (i+1)) tm ((s,s',.mx (rows++[none]))::ax key M)
   ⟨st.tm,st.own.put s' (((st.own s').bg (σ key 0).2 none).new ⟨1,B9 σ key 0 rows++[[.nil]]⟩)⟩:=by
 have hs:=h.sat.site _ _ _ e;subst hs;have r0:=EM e;generalize hF:(λ t=>match t with|0=>((σ key 0).1,st.own.n6 (σ key 0).1)|i+1=>σ key (i+1):Nat->Nat × Nat)=F;have F0:F 0=((σ key 0).1,st.own.n6 (σ key 0).1):=by rw[<-hF]
 have F1 : ∀ i,F (i+1)=σ key (i+1):=by intro i;rw[<-hF]
 have nv:B9 (C7 σ s F) s 0 (rows++[none])=B9 σ key 0 rows++[[.nil]]:=by
  apply List.ext_getElem?;intro j;rw[FD,BU];rcases Nat.lt_trichotomy j rows.length with hj|hj|hj
  ·rw[List.getElem?_append_left hj,List.getElem?_append_left (by rw[FE];exact hj),FD]
   congr 1;funext r
   cases r with
   | none=>rfl
   | some x=>simp only[Nat.zero_add];rw[F1]
  ·subst hj
   rw[List.getElem?_append_right (Nat.le_refl _),List.getElem?_append_right (by rw[FE];exact Nat.le_refl _),FE];simp
  ·rw[List.getElem?_eq_none (by simp;omega),List.getElem?_eq_none (by simp [FE];omega)];rfl
 have Fo : ∀ j t c',g8 M j t=some c'->HO s c'=false/\j≠s:=by
  intro j t c' g;obtain ⟨s1,c0,g1,g2,g3⟩:=J4 g;obtain ⟨g4,g5⟩:=bY hm _ _ _ g1;refine ⟨?_,g4⟩;cases t with
  | zero=>rw[g2 rfl];exact g5
  | succ i=>obtain ⟨rows,z,es,_,_,rfl⟩:=g3 i rfl;rfl
 have hg : ∀ j t c,g8 ((s,(σ key 0).1,.mx (rows++[none]))::ax key M) j t=some c ->
   (j=s/\t=0/\c = .mx (rows++[none]))\/(j=s/\t≠0/\g8 M key t=some c)\/(j≠s/\j≠key/\g8 M j t=some c):=by
  intro j t c g;by_cases hj:j=s
  ·subst hj
   cases t with
   | zero=>rw[eP]at g;exact Or.inl ⟨rfl,rfl,(Option.some.inj g).symm⟩
   | succ t =>
    simp only[g8,l6,Nat.beq_refl,cond_true]at g;rcases Nat.lt_trichotomy t rows.length with tc|tc|tc
    ·rw[List.getElem?_append_left tc]at g
     refine Or.inr (Or.inl ⟨rfl,by omega,?_⟩);simp only[g8,e];exact g
    ·subst tc
     rw[List.getElem?_append_right (Nat.le_refl _),Nat.sub_self]at g;simp at g
    ·rw[List.getElem?_eq_none (by simp;omega)]at g;cases g
  ·rw[WO hj]at g
   obtain ⟨g1,g2⟩:=YI g;exact Or.inr (Or.inr ⟨hj,g1,g2⟩)
 refine ⟨λ j => ?_,⟨?_,?_,?_,?_,?_⟩⟩
 ·rw[tM (kS ht j)];exact h.tm j
 ·intro j s1 c g
  simp only[l6]at g;cases hb:Nat.beq j s<;>simp only[hb,cond_true,cond_false]at g
  ·rw[CR _ (FR.1 hb)];exact h.sat.site _ _ _ (bX g).2
  ·simp only[Option.some.injEq,Prod.mk.injEq]at g
   rw[BN.1 hb,BU,F0,<-g.1]
 ·intro j t c g
  rcases hg j t c g with ⟨rfl,rfl,rfl⟩|⟨rfl,h0,g2⟩|⟨h0,h1,g2⟩
  ·rw[BU,F0]
   simp only[A9.m5,nv];simp [AH.o4,CH.new,AH.n6,CH.bg]
  ·obtain ⟨t',rfl⟩ : ∃ t',t=t'+1:=⟨t-1,by omega⟩
   rw[BU,F1];have hb:c.m5 (C7 σ j F) j=c.m5 σ key:=by
    obtain ⟨_,_,_,_,g3⟩:=J4 g2;obtain ⟨_,_,_,_,_,rfl⟩:=g3 t' rfl;rfl
   rw[hb];exact (hH (λ he=>absurd (h.sat.inj _ _ _ _ _ _ g2 r0 he).2 (by omega)) (h.sat.old _ _ _ g2)).trans (h.sat.m5 _ _ _ g2)
  ·rw[CR _ h0,pX (Fo _ _ _ g2).1 h0]
   exact (hH (λ he=>h1 (h.sat.inj _ _ _ _ _ _ g2 r0 he).1) (h.sat.old _ _ _ g2)).trans (h.sat.m5 _ _ _ g2)
 ·intro j t c g
  rcases hg j t c g with ⟨rfl,rfl,rfl⟩|⟨rfl,h0,g2⟩|⟨h0,h1,g2⟩
  ·rw[BU,F0]
   simp [AH.o4,CH.new,AH.n6,CH.bg]
  ·obtain ⟨t',rfl⟩ : ∃ t',t=t'+1:=⟨t-1,by omega⟩
   rw[BU,F1];exact Nat.lt_of_lt_of_le (h.sat.old _ _ _ g2) (hJ _)
  ·rw[CR _ h0]
   exact Nat.lt_of_lt_of_le (h.sat.old _ _ _ g2) (hJ _)
 ·have hold : ∀ j t c,g8 ((s,(σ key 0).1,.mx (rows++[none]))::ax key M) j t=some c->(j=s/\t=0) \/ ∃ j0 t0 c0,g8 M j0 t0=some c0/\C7 σ s F j t=σ j0 t0/\((j0=key/\t0=t/\j=s)\/(j0=j/\t0=t/\j≠key)):=by
   intro j t c g;rcases hg j t c g with ⟨rfl,rfl,rfl⟩|⟨rfl,h0,g2⟩|⟨h0,h1,g2⟩
   ·exact Or.inl ⟨rfl,rfl⟩
   ·obtain ⟨t',rfl⟩ : ∃ t',t=t'+1:=⟨t-1,by omega⟩
    exact Or.inr ⟨_,_,_,g2,by rw[BU,F1],Or.inl ⟨rfl,rfl,rfl⟩⟩
   ·exact Or.inr ⟨_,_,_,g2,by rw[CR _ h0],Or.inr ⟨rfl,rfl,h1⟩⟩
  have rj : ∀ j0 t0 c0,g8 M j0 t0=some c0->C7 σ s F s 0≠σ j0 t0:=by
   intro j0 t0 c0 g he;rw[BU,F0]at he;have:=h.sat.old _ _ _ g
   rw[<-he]at this;exact absurd this (Nat.lt_irrefl _)
  intro j t j' t' c c' g g' hj;rcases hold j t c g with ⟨rfl,rfl⟩|⟨j0,t0,c0,a1,a2,a3⟩<;>rcases hold j' t' c' g' with ⟨rfl,rfl⟩|⟨j1,t1,c1,b1,b2,b3⟩
  ·exact ⟨rfl,rfl⟩
  ·rw[b2]at hj;exact absurd hj (rj _ _ _ b1)
  ·rw[a2]at hj;exact absurd hj.symm (rj _ _ _ a1)
  ·rw[a2,b2]at hj
   obtain ⟨q1,q2⟩:=h.sat.inj _ _ _ _ _ _ a1 b1 hj;rcases a3 with ⟨x1,x2,x3⟩|⟨x1,x2,x3⟩<;>rcases b3 with ⟨y1,y2,y3⟩|⟨y1,y2,y3⟩
   ·exact ⟨x3.trans y3.symm,x2.symm.trans (q2.trans y2)⟩
   ·exact absurd (y1.symm.trans (q1.symm.trans x1)) y3
   ·exact absurd (x1.symm.trans (q1.trans y1)) x3
   ·exact ⟨x1.symm.trans (q1.trans y1),x2.symm.trans (q2.trans y2)⟩
 ·intro j t c g hw
  rcases hg j t c g with ⟨rfl,rfl,rfl⟩|⟨rfl,h0,g2⟩|⟨h0,h1,g2⟩
  ·rw[BU,F0];exact h.sat.low _ _ _ r0 rfl
  ·obtain ⟨t',rfl⟩ : ∃ t',t=t'+1:=⟨t-1,by omega⟩
   rw[BU,F1];exact h.sat.low _ _ _ g2 hw
  ·rw[CR _ h0];exact h.sat.low _ _ _ g2 hw
theorem uZ {k:Nat} {v:AV} (h:aJ k v=false):cR k v=false:=by
 cases v with
 | row j t z o n=>simp only[aJ]at h;simp only[cR,h,cond_false]
 | ptr j t a b=>simp only[aJ]at h;simp only[cR,h,cond_false]
 | _=>rfl
theorem lU {k:Nat} : ∀ {cs:List AV},JC k cs=false->bO k cs=false
 | [],_=>rfl
 | c::r,h=>by
  simp only[JC]at h;cases h1:aJ k c<;>simp only[h1,cond_true,cond_false]at h
  ·simp only[bO,uZ h1,cond_false,lU h]
  ·cases h
theorem Wi {k:Nat} : ∀ {es:List (List AV)},OU k es=false->jJ k es=false
 | [],_=>rfl
 | c::r,h=>by
  simp only[OU]at h;cases h1:JC k c<;>simp only[h1,cond_true,cond_false]at h
  ·simp only[jJ,lU h1,cond_false,Wi h]
  ·cases h
theorem lT {k:Nat} {v:AV} (h:dK k v=false):gI k v=false:=by
 cases v with
 | agg cs=>exact lU h
 | fn p f g cs=>exact lU h
 | row a b c d e=>exact uZ (v := .row a b c d e) h
 | ptr a b c d=>exact uZ (v := .ptr a b c d) h
 | _=>rfl
theorem Wg {k:Nat} : ∀ {cs:List AV},kR k cs=false->jI k cs=false
 | [],_=>rfl
 | c::r,h=>by
  simp only[kR]at h;cases h1:dK k c<;>simp only[h1,cond_true,cond_false]at h
  ·simp only[jI,lT h1,cond_false,Wg h]
  ·cases h
theorem AiY {k:Nat} {v:AV} (h:aK k v=false):dZ k v=false:=by
 cases v with
 | m9 cs=>exact Wg h
 | agg cs=>exact lT (v := .agg cs) h
 | fn p f g cs=>exact lT (v := .fn p f g cs) h
 | row a b c d e=>exact lT (v := .row a b c d e) h
 | ptr a b c d=>exact lT (v := .ptr a b c d) h
 | _=>rfl
theorem Wk {k:Nat} : ∀ {tm:Tm},JD k tm=false->PL k tm=false
 | [],_=>rfl
 | (i,v)::r,h=>by
  simp only[JD]at h;cases h1:aK k v<;>simp only[h1,cond_true,cond_false]at h
  ·simp only[PL,AiY h1,cond_false,Wk h]
  ·cases h
theorem Wj {k:Nat} : ∀ {M:Mem},G5 k M=false->JY k M=false
 | [],_=>rfl
 | (i,s,c)::r,h=>by
  simp only[G5]at h;cases h0:Nat.beq k i<;>simp only[h0,cond_true,cond_false]at h
  ·cases h1:HO k c<;>simp only[h1,cond_true,cond_false]at h
   ·have:bN k c=false:=by
     cases c with
     | bx cs=>exact lU h1
     | bs z es=>exact Wi h1
     | _=>rfl
    simp only[JY,this,cond_false,Wj h]
   ·cases h
  ·cases h
theorem RX.hid {M1 M2:Mem} (hm : ∀ k,l6 M1 k=l6 M2 k) (h:RX σ tm M1 st):RX σ tm M2 st:=by
 have hr : ∀ k t,g8 M1 k t=g8 M2 k t:=λ k t=>by simp only[g8,hm]
 refine ⟨h.tm,⟨λ k s c e => ?_,λ k t c e => ?_,λ k t c e => ?_,λ k t k' t' c c' e e' => ?_,λ k t c e hw => ?_⟩⟩
 ·rw[<-hm]at e;exact h.sat.site _ _ _ e
 ·rw[<-hr]at e;exact h.sat.m5 _ _ _ e
 ·rw[<-hr]at e;exact h.sat.old _ _ _ e
 ·rw[<-hr]at e e';exact h.sat.inj _ _ _ _ _ _ e e'
 ·rw[<-hr]at e;exact h.sat.low _ _ _ e hw
theorem RX.Uk (h:RX σ tm M st) {s q k2 s2 z:Nat} {es:List (List AV)} (e2:l6 M k2=some (s2,.rw z es)) (hk:s≠k2) (hm:G5 s M=false) (ht:JD s tm=false) (hq:E3 q=true) :
  ∃ σ',σ' s 0=(q,st.own.n6 q)/\RX σ' tm ((s,q,.mx [some (z,es)])::ax k2 M) ⟨st.tm,st.own.put q ((st.own q).new ⟨1,[[.row (σ k2 0).1 (σ k2 0).2 z 0 es.length]]⟩)⟩:=by
 have ik:A9.flat (.mx [none]):=by
  intro i x hx;cases i with
  | zero=>simp at hx
  | succ i=>simp at hx
 have h1:=h.kb (s:=s) (q:=q) hm ht (.mx [none]) ik rfl (λ_=>hq);have Az:l6 ((s,q,.mx [none])::M) k2=some (s2,.rw z es):=by
  simp only[l6,FR.2 (λ e=>hk e.symm),cond_false];exact e2
 have pf:JY s ((s,q,.mx [none])::M)=false:=by simp only[JY,bN,cond_false,Wj hm]
 have h2:=h1.Fv (k:=s) (s:=q) (k2:=k2) (i:=0) (rows:=[none]) (c0 := .mx [none]) (by simp [l6]) (Or.inl rfl) Az hk (Wk ht) pf (by simp);refine ⟨C7 σ s (λ t=>if t=0+1 then σ k2 0 else (q,st.own.n6 q)),?_,?_⟩
 ·rw[BU];simp
 ·have hσ:(C7 (C7 σ s λ_=>(q,st.own.n6 q)) s λ t=>if t=0+1 then (C7 σ s λ_=>(q,st.own.n6 q)) k2 0 else (C7 σ s λ_=>(q,st.own.n6 q)) s t)=C7 σ s (λ t=>if t=0+1 then σ k2 0 else (q,st.own.n6 q)):=by
   funext j t
   by_cases hj:j=s
   ·subst hj;rw[BU,BU];simp only[BU,CR _ (λ e=>hk e.symm)]
   ·rw[CR _ hj,CR _ hj,CR _ hj]
  rw[hσ]at h2;have hM:ax k2 ((s,q,A9.mx [none])::M)=(s,q,.mx [none])::ax k2 M:=by
   simp only[ax,FR.2 (λ e=>hk e.symm),cond_false]
  rw[hM]at h2;have ho : ∀ b b':ED,(st.own.put q ((st.own q).new b)).put q (((st.own.put q ((st.own q).new b)) q).bg (st.own.n6 q) (some b'))=st.own.put q ((st.own q).new b'):=by
   intro b b';rw[AH.px,AH.o4];congr 1;simp only[CH.bg,CH.new,AH.n6,CH.mk.injEq,true_and];funext t'
   by_cases tc:t'=(st.own q).n6<;>simp [tc]
  have hn:(C7 σ s λ_=>(q,st.own.n6 q)) s 0=(q,st.own.n6 q):=by rw[BU]
  have re:(C7 σ s λ_=>(q,st.own.n6 q)) k2=σ k2:=CR _ (λ e=>hk e.symm);simp only[hn,re]at h2;rw[ho]at h2;refine RX.hid (λ k => ?_) h2;simp only[l6];cases Nat.beq k s<;>rfl
theorem RX.Ox (h:RX σ tm M st) {s key k2 ky s' s2 z:Nat} {rows:List (Option (Nat × List (List AV)))} {es:List (List AV)} (e:l6 M key=some (s',.mx rows)) (e2:l6 M k2=some (s2,.rw z es)) (hk:key≠k2) (hm:G5 s M=false) (ht:JD s tm=false) :
  RX (C7 σ s λ t=>match t with|0=>(s',st.own.n6 s')|i+1=>if i=rows.length then σ k2 0 else σ key (i+1)) tm ((s,s',.mx (rows++[some (z,es)]))::ax key (ax k2 (ax ky M)))
   ⟨st.tm,st.own.put s' (((st.own s').bg (σ key 0).2 none).new ⟨1,B9 σ key 0 rows++[[.row (σ k2 0).1 (σ k2 0).2 z 0 es.length]]⟩)⟩:=by
 have hs:=h.sat.site _ _ _ e;subst hs;have r0:=EM e;have r2:=EM e2;generalize hF:(λ t=>match t with|0=>((σ key 0).1,st.own.n6 (σ key 0).1)|i+1=>if i=rows.length then σ k2 0 else σ key (i+1):Nat->Nat × Nat)=F;have F0:F 0=((σ key 0).1,st.own.n6 (σ key 0).1):=by rw[<-hF]
 have F1 : ∀ i,F (i+1)=if i=rows.length then σ k2 0 else σ key (i+1):=by intro i;rw[<-hF]
 have nv:B9 (C7 σ s F) s 0 (rows++[some (z,es)])=B9 σ key 0 rows++[[.row (σ k2 0).1 (σ k2 0).2 z 0 es.length]]:=by
  apply List.ext_getElem?;intro j;rw[FD,BU];rcases Nat.lt_trichotomy j rows.length with hj|hj|hj
  ·rw[List.getElem?_append_left hj,List.getElem?_append_left (by rw[FE];exact hj),FD]
   congr 1;funext r
   cases r with
   | none=>rfl
   | some x=>simp only[Nat.zero_add];rw[F1,if_neg (by omega)]
  ·subst hj
   rw[List.getElem?_append_right (Nat.le_refl _),List.getElem?_append_right (by rw[FE];exact Nat.le_refl _),FE];simp [F1]
  ·rw[List.getElem?_eq_none (by simp;omega),List.getElem?_eq_none (by simp [FE];omega)];rfl
 have Fo : ∀ j t c',g8 M j t=some c'->HO s c'=false/\j≠s:=by
  intro j t c' g;obtain ⟨s1,c0,g1,g2,g3⟩:=J4 g;obtain ⟨g4,g5⟩:=bY hm _ _ _ g1;refine ⟨?_,g4⟩;cases t with
  | zero=>rw[g2 rfl];exact g5
  | succ i=>obtain ⟨rows,z,es,_,_,rfl⟩:=g3 i rfl;rfl
 have hg : ∀ j t c,g8 ((s,(σ key 0).1,.mx (rows++[some (z,es)]))::ax key (ax k2 (ax ky M))) j t=some c ->
   (j=s/\t=0/\c = .mx (rows++[some (z,es)]))\/(j=s/\t=rows.length+1/\c = .rw z es)\/(j=s/\t≠0/\t≠rows.length+1/\g8 M key t=some c)\/(j≠s/\j≠key/\j≠k2/\g8 M j t=some c):=by
  intro j t c g;by_cases hj:j=s
  ·subst hj
   cases t with
   | zero=>rw[eP]at g;exact Or.inl ⟨rfl,rfl,(Option.some.inj g).symm⟩
   | succ t =>
    simp only[g8,l6,Nat.beq_refl,cond_true]at g;rcases Nat.lt_trichotomy t rows.length with tc|tc|tc
    ·rw[List.getElem?_append_left tc]at g
     refine Or.inr (Or.inr (Or.inl ⟨rfl,by omega,by omega,?_⟩));simp only[g8,e];exact g
    ·subst tc
     rw[List.getElem?_append_right (Nat.le_refl _),Nat.sub_self]at g;exact Or.inr (Or.inl ⟨rfl,rfl,(Option.some.inj g).symm⟩)
    ·rw[List.getElem?_eq_none (by simp;omega)]at g;cases g
  ·rw[WO hj]at g
   obtain ⟨g1,g2⟩:=YI g;obtain ⟨g3,g4⟩:=YI g2;obtain ⟨_,g5⟩:=YI g4;exact Or.inr (Or.inr (Or.inr ⟨hj,g1,g3,g5⟩))
 refine ⟨λ j => ?_,⟨?_,?_,?_,?_,?_⟩⟩
 ·rw[tM (kS ht j)];exact h.tm j
 ·intro j s1 c g
  simp only[l6]at g;cases hb:Nat.beq j s<;>simp only[hb,cond_true,cond_false]at g
  ·rw[CR _ (FR.1 hb)];exact h.sat.site _ _ _ (bX (bX (bX g).2).2).2
  ·simp only[Option.some.injEq,Prod.mk.injEq]at g
   rw[BN.1 hb,BU,F0,<-g.1]
 ·intro j t c g
  rcases hg j t c g with ⟨rfl,rfl,rfl⟩|⟨rfl,rfl,rfl⟩|⟨rfl,h0,h1,g2⟩|⟨h0,h1,h2,g2⟩
  ·rw[BU,F0]
   simp only[A9.m5,nv];simp [AH.o4,CH.new,AH.n6,CH.bg]
  ·rw[BU,F1,if_pos rfl]
   exact (hH (λ he=>hk (h.sat.inj _ _ _ _ _ _ r2 r0 he).1.symm) (h.sat.old _ _ _ r2)).trans (h.sat.m5 _ _ _ r2)
  ·obtain ⟨t',rfl⟩ : ∃ t',t=t'+1:=⟨t-1,by omega⟩
   rw[BU,F1,if_neg (by omega)];have hb:c.m5 (C7 σ j F) j=c.m5 σ key:=by
    obtain ⟨_,_,_,_,g3⟩:=J4 g2;obtain ⟨_,_,_,_,_,rfl⟩:=g3 t' rfl;rfl
   rw[hb];exact (hH (λ he=>absurd (h.sat.inj _ _ _ _ _ _ g2 r0 he).2 (by omega)) (h.sat.old _ _ _ g2)).trans (h.sat.m5 _ _ _ g2)
  ·rw[CR _ h0,pX (Fo _ _ _ g2).1 h0]
   exact (hH (λ he=>h1 (h.sat.inj _ _ _ _ _ _ g2 r0 he).1) (h.sat.old _ _ _ g2)).trans (h.sat.m5 _ _ _ g2)
 ·intro j t c g
  rcases hg j t c g with ⟨rfl,rfl,rfl⟩|⟨rfl,rfl,rfl⟩|⟨rfl,h0,h1,g2⟩|⟨h0,h1,h2,g2⟩
  ·rw[BU,F0]
   simp [AH.o4,CH.new,AH.n6,CH.bg]
  ·rw[BU,F1,if_pos rfl]
   exact Nat.lt_of_lt_of_le (h.sat.old _ _ _ r2) (hJ _)
  ·obtain ⟨t',rfl⟩ : ∃ t',t=t'+1:=⟨t-1,by omega⟩
   rw[BU,F1,if_neg (by omega)];exact Nat.lt_of_lt_of_le (h.sat.old _ _ _ g2) (hJ _)
  ·rw[CR _ h0]
   exact Nat.lt_of_lt_of_le (h.sat.old _ _ _ g2) (hJ _)
 ·have hold : ∀ j t c,g8 ((s,(σ key 0).1,.mx (rows++[some (z,es)]))::ax key (ax k2 (ax ky M))) j t=some c->(j=s/\t=0) \/ ∃ j0 t0 c0,g8 M j0 t0=some c0/\C7 σ s F j t=σ j0 t0/\((j0=k2/\t0=0/\j=s/\t=rows.length+1)\/(j0=key/\t0=t/\j=s)\/(j0=j/\t0=t/\j≠key/\j≠k2)):=by
   intro j t c g;rcases hg j t c g with ⟨rfl,rfl,rfl⟩|⟨rfl,rfl,rfl⟩|⟨rfl,h0,h1,g2⟩|⟨h0,h1,h2,g2⟩
   ·exact Or.inl ⟨rfl,rfl⟩
   ·exact Or.inr ⟨_,_,_,r2,by rw[BU,F1,if_pos rfl],Or.inl ⟨rfl,rfl,rfl,rfl⟩⟩
   ·obtain ⟨t',rfl⟩ : ∃ t',t=t'+1:=⟨t-1,by omega⟩
    exact Or.inr ⟨_,_,_,g2,by rw[BU,F1,if_neg (by omega)],Or.inr (Or.inl ⟨rfl,rfl,rfl⟩)⟩
   ·exact Or.inr ⟨_,_,_,g2,by rw[CR _ h0],Or.inr (Or.inr ⟨rfl,rfl,h1,h2⟩)⟩
  have rj : ∀ j0 t0 c0,g8 M j0 t0=some c0->C7 σ s F s 0≠σ j0 t0:=by
   intro j0 t0 c0 g he;rw[BU,F0]at he;have:=h.sat.old _ _ _ g
   rw[<-he]at this;exact absurd this (Nat.lt_irrefl _)
  intro j t j' t' c c' g g' hj;rcases hold j t c g with ⟨rfl,rfl⟩|⟨j0,t0,c0,a1,a2,a3⟩<;>rcases hold j' t' c' g' with ⟨rfl,rfl⟩|⟨j1,t1,c1,b1,b2,b3⟩
  ·exact ⟨rfl,rfl⟩
  ·rw[b2]at hj;exact absurd hj (rj _ _ _ b1)
  ·rw[a2]at hj;exact absurd hj.symm (rj _ _ _ a1)
  ·rw[a2,b2]at hj
   obtain ⟨q1,q2⟩:=h.sat.inj _ _ _ _ _ _ a1 b1 hj;rcases a3 with ⟨x1,x2,x3,x4⟩|⟨x1,x2,x3⟩|⟨x1,x2,x3,x4⟩<;>rcases b3 with ⟨y1,y2,y3,y4⟩|⟨y1,y2,y3⟩|⟨y1,y2,y3,y4⟩
   ·exact ⟨x3.trans y3.symm,x4.trans y4.symm⟩
   ·exact absurd (y1.symm.trans (q1.symm.trans x1)) hk
   ·exact absurd (y1.symm.trans (q1.symm.trans x1)) y4
   ·exact absurd (x1.symm.trans (q1.trans y1)) hk
   ·exact ⟨x3.trans y3.symm,x2.symm.trans (q2.trans y2)⟩
   ·exact absurd (y1.symm.trans (q1.symm.trans x1)) y3
   ·exact absurd (x1.symm.trans (q1.trans y1)) x4
   ·exact absurd (x1.symm.trans (q1.trans y1)) x3
   ·exact ⟨x1.symm.trans (q1.trans y1),x2.symm.trans (q2.trans y2)⟩
 ·intro j t c g hw
  rcases hg j t c g with ⟨rfl,rfl,rfl⟩|⟨rfl,rfl,rfl⟩|⟨rfl,h0,h1,g2⟩|⟨h0,h1,h2,g2⟩
  ·rw[BU,F0];exact h.sat.low _ _ _ r0 rfl
  ·rw[BU,F1,if_pos rfl];exact h.sat.low _ _ _ r2 rfl
  ·obtain ⟨t',rfl⟩ : ∃ t',t=t'+1:=⟨t-1,by omega⟩
   rw[BU,F1,if_neg (by omega)];exact h.sat.low _ _ _ g2 hw
  ·rw[CR _ h0];exact h.sat.low _ _ _ g2 hw
theorem HR (k:IntKind) (n:Int):BI σ (.int k n) = .int k n:=rfl
theorem HQ (b:Bool):BI σ (.bool b) = .bool b:=rfl
theorem JI (l:Bool) (es:List (List AV)):BI σ (.sl l es) = .sl l es:=rfl
theorem DI (k t z o n:Nat):BI σ (.row k t z o n) = .row (σ k t).1 (σ k t).2 z o n:=rfl
theorem EN (k t i j:Nat):BI σ (.ptr k t i j) = .ptr (σ k t).1 (σ k t).2 i j:=rfl
theorem OW (cs:List AV):BI σ (.bu cs) = .bu cs:=rfl
theorem FM:BI σ .nil = .nil:=rfl
theorem IQ (cs:List AV):BI σ (.agg cs) = .agg (cs.map (BA σ)):=rfl
theorem ApG (v:Value):BI σ (.ib v) = .ib v:=rfl
theorem oA (p:Bool) (f g:Nat) (cs:List AV):BI σ (.fn p f g cs) = .fn p f g (cs.map (BA σ)):=rfl
theorem NY (cs:List AV):BI σ (.m9 cs) = .m9 (cs.map (BR σ)):=rfl
def CG.res (own:AH):CG->AV × AH
 | .val v=>(v,own)
 | .new s b f=>(f (own.n6 s),own.put s ((own s).new b))
 | .Cm s b f=>(f (own.n6 s),own.put s ((own s).new b))
 | .jc v o=>(v,o)
 | .bg s x=>(.m9 [],own.put s x)
 | .Aw s x v=>(v,own.put s x)
theorem uQ (st:St) (d:Option Nat) (E:CG):st.app d E=⟨(st.dst d (E.res st.own).1).tm,(E.res st.own).2⟩:=by
 cases E<;>cases d<;>rfl
def BV (L:Lib) (tm:Tm) (g9:List Nat) (K:AV->Mem->Prop) (op:D8) (st:St):Prop :=
 ∃ E σ' v M',(∀ c,m6 (C6 L c) g9 st.ev st.own op=some E)/\K v M'/\(E.res st.own).1=BI σ' v/\RX σ' tm M' ⟨st.tm,(E.res st.own).2⟩
theorem BV.val {L:Lib} {g9:List Nat} {K:AV->Mem->Prop} {op:D8} (h:RX σ tm M st) (v:AV) (he : ∀ c,m6 (C6 L c) g9 st.ev st.own op=some (.val (BI σ v))) (hk:K v M):BV L tm g9 K op st :=
 ⟨_,σ,v,M,he,hk,rfl,h⟩
variable {L:Lib} {g9:List Nat} {K:AV->Mem->Prop}
theorem Aip {x:AP} (hr:RX σ tm M st) (h:XE L tm M g9 K (.c6 x)):BV L tm g9 K (.c6 x) st:=by
 simp only[XE]at h;obtain ⟨h1,h2⟩:=rG h;exact BV.val hr _ (λ C=>by simp only[m6,hr.ev rfl h1]) h2
theorem Aiv {s z:Nat} (hr:RX σ tm M st) (h:XE L tm M g9 K (.ff s z)):BV L tm g9 K (.ff s z) st:=by
 simp only[XE]at h;cases km:E3 s<;>simp only[km,cond_true,cond_false]at h;obtain ⟨k,h1,h2,h3⟩:=H4 h;refine ⟨_,_,_,_,λ C=>rfl,h3,?_,hr.kb h1 h2 (.rw z []) trivial rfl (λ_=>km)⟩;simp only[CG.res,DI,EN,BU]
theorem Aiq {c a b:AP} (hr:RX σ tm M st) (h:XE L tm M g9 K (.pick c a b)):BV L tm g9 K (.pick c a b) st:=by
 simp only[XE]at h;split at h
 ·rename_i e
  obtain ⟨h1,h2⟩:=rG h;exact BV.val hr _ (λ C=>by simp only[m6,hr.ev e (by intro e;cases e),hr.ev rfl h1,HR,HQ,JI,DI,EN,OW,FM,IQ,NY]) h2
 ·rename_i e
  obtain ⟨h1,h2⟩:=rG h;exact BV.val hr _ (λ C=>by simp only[m6,hr.ev e (by intro e;cases e),hr.ev rfl h1,HR,HQ,JI,DI,EN,OW,FM,IQ,NY]) h2
 ·exact h.elim
theorem Anq {op:BinOp} {k k':IntKind} {a b:Int} {v:AV} (h:DW op k a k' b=some v):BI σ v=v:=by
 cases op<;>simp only[DW]at h<;>split at h<;>first|(obtain rfl:=Option.some.inj h;rfl)|cases h
theorem An6 {k k':IntKind} (h:kq k k'=true):k=k':=by simpa [kq] using h
theorem AiM {op:BinOp} {k k':IntKind} {a b:Int} {K:AV->Prop} (h:uT op k a k' b K) : ∃ v,DW op k a k' b=some v/\K v:=by
 have key : ∀ (p q:Prop) [Decidable p] (A B:Prop) (c:Bool),(¬ p->q)->AF p q A B->(p/\A)\/(¬ p/\B):=by
  intro p q _ A B _ hq hc;by_cases hp:p
  ·exact Or.inl ⟨hp,hc.1 hp⟩
  ·exact Or.inr ⟨hp,hc.2 (hq hp)⟩
 cases op;all_goals try (exact h)
 all_goals (
  simp only[uT]at h;cases hk:kq k k'<;>simp only[hk,cond_true,cond_false]at h;obtain rfl:=An6 hk;simp only[DW,if_true])
 ·rcases key (a=b) _ _ _ true (λ e=>e) h with ⟨h1,h2⟩|⟨h1,h2⟩
  ·exact ⟨_,rfl,by rw[show (a == b)=true by simpa using h1];exact h2⟩
  ·exact ⟨_,rfl,by rw[show (a == b)=false by simpa using h1];exact h2⟩
 ·rcases key (a≠b) _ _ _ true (λ e=>by omega) h with ⟨h1,h2⟩|⟨h1,h2⟩
  ·exact ⟨_,rfl,by rw[show (a != b)=true by simpa using h1];exact h2⟩
  ·exact ⟨_,rfl,by rw[show (a != b)=false by simpa using h1];exact h2⟩
 ·rcases key (a<b) _ _ _ true (λ e=>by omega) h with ⟨h1,h2⟩|⟨h1,h2⟩
  ·exact ⟨_,rfl,by simpa [h1] using h2⟩
  ·exact ⟨_,rfl,by simpa [h1] using h2⟩
 ·rcases key (a<=b) _ _ _ true (λ e=>by omega) h with ⟨h1,h2⟩|⟨h1,h2⟩
  ·exact ⟨_,rfl,by simpa [h1] using h2⟩
  ·exact ⟨_,rfl,by simpa [h1] using h2⟩
 ·rcases key (b<a) _ _ _ true (λ e=>by omega) h with ⟨h1,h2⟩|⟨h1,h2⟩
  ·exact ⟨_,rfl,by simpa [h1] using h2⟩
  ·exact ⟨_,rfl,by simpa [h1] using h2⟩
 ·rcases key (b<=a) _ _ _ true (λ e=>by omega) h with ⟨h1,h2⟩|⟨h1,h2⟩
  ·exact ⟨_,rfl,by simpa [h1] using h2⟩
  ·exact ⟨_,rfl,by simpa [h1] using h2⟩
theorem AhN {op:BinOp} {x y:AP} (hr:RX σ tm M st) (h:XE L tm M g9 K (.bin op x y)):BV L tm g9 K (.bin op x y) st:=by
 simp only[XE]at h;split at h
 ·rename_i k a k' b e1 e2
  obtain ⟨v,hv,hk⟩:=AiM h;exact BV.val hr v (λ C=>by
   simp only[m6,hr.ev e1 (by intro e;cases e),hr.ev e2 (by intro e;cases e),HR,HQ,JI,DI,EN,OW,FM,IQ,NY,hv,Option.map_some];exact congrArg some (congrArg CG.val (Anq (σ:=σ) hv).symm)) hk
 ·exact h.elim
theorem AhM {ne:Bool} {x y:AP} (hr:RX σ tm M st) (h:XE L tm M g9 K (.beq ne x y)):BV L tm g9 K (.beq ne x y) st:=by
 simp only[XE]at h;split at h
 ·rename_i a b e1 e2
  rw[cY]at h;exact BV.val hr _ (λ C=>by
   simp only[m6,hr.ev e1 (by intro e;cases e),hr.ev e2 (by intro e;cases e),HR,HQ,JI,DI,EN,OW,FM,IQ,NY];cases ne<;>rfl) h
 ·exact h.elim
theorem yN : ∀ {cs:List AV} {a:List Int},I1 cs=some a->cs.map (BA σ)=cs
 | [],_,_=>rfl
 | c::r,a,h=>by
  cases c with
  | int k n =>
   cases k<;>simp only[I1]at h<;>first|cases h|skip
   cases hr:I1 r with
   | none=>rw[hr]at h;cases h
   | some b=>rw[List.map_cons,yN hr];rfl
  | _=>simp only[I1]at h;cases h
theorem AhG {ne:Bool} {n:Nat} {x y:AP} (hr:RX σ tm M st) (h:XE L tm M g9 K (.wk ne n x y)):BV L tm g9 K (.wk ne n x y) st:=by
 simp only[XE]at h;split at h
 ·rename_i cs ds e1 e2
  obtain ⟨a,b,h1,h2,h3,h4,h⟩:=h;rw[cY]at h;exact BV.val hr _ (λ C=>by
   simp only[m6,hr.ev e1 (by intro e;cases e),hr.ev e2 (by intro e;cases e),IQ,yN h1,yN h2,h1,h2];rw[if_pos ⟨h3,h4⟩];cases ne<;>rfl) h
 ·exact h.elim
theorem Aiu {op:UnOp} {x:AP} (hr:RX σ tm M st) (h:XE L tm M g9 K (.un op x)):BV L tm g9 K (.un op x) st:=by
 simp only[XE]at h;split at h
 ·rename_i k n e1
  obtain ⟨v,hv,hk⟩:=h;refine BV.val hr v (λ C => ?_) hk;simp only[m6,hr.ev e1 (by intro e;cases e),HR,HQ,JI,DI,EN,OW,FM,IQ,NY,hv,Option.map_some];cases op<;>simp only[fQ,Option.some.injEq,reduceCtorEq]at hv<;>subst hv<;>rfl
 ·rename_i b e1
  split at h
  ·rw[cY]at h
   exact BV.val hr _ (λ C=>by simp only[m6,hr.ev e1 (by intro e;cases e),HR,HQ,JI,DI,EN,OW,FM,IQ,NY,fQ,Option.map_some]) h
  ·exact h.elim
 ·exact h.elim
theorem AhS {k:IntKind} {x:AP} (hr:RX σ tm M st) (h:XE L tm M g9 K (.conv k x)):BV L tm g9 K (.conv k x) st:=by
 simp only[XE]at h;split at h
 ·rename_i k' n e1
  exact BV.val hr _ (λ C=>by simp only[m6,hr.ev e1 (by intro e;cases e),HR,HQ,JI,DI,EN,OW,FM,IQ,NY]) h
 ·exact h.elim
theorem AhO {s:Nat} {x:AP} (hr:RX σ tm M st) (h:XE L tm M g9 K (.box s x)):BV L tm g9 K (.box s x) st:=by
 simp only[XE]at h;obtain ⟨h0,cs,hc,h⟩:=rE h;obtain ⟨k,h1,h2,h3⟩:=H4 h;refine ⟨.new s (A9.m5 σ k (.bx cs)) (λ t => .ptr s t 0 0),_,_,_,λ C => ?_,h3,?_,hr.kb h1 h2 (.bx cs) trivial (Afs (Adj h2 x) hc) (λ h=>nomatch h)⟩
 ·simp only[m6,hr.ev rfl h0,bM hc,List.length_map,A9.m5]
 ·simp only[CG.res,DI,EN,BU]
theorem AhH {s:Nat} {z:List AV} (hr:RX σ tm M st) (h:XE L tm M g9 K (.alloc s z)):BV L tm g9 K (.alloc s z) st:=by
 simp only[XE]at h;cases hd:EG z<;>simp only[hd,cond_true,cond_false]at h;obtain ⟨k,h1,h2,h3⟩:=H4 h;refine ⟨.new s (A9.m5 σ k (.bx z)) (λ t => .ptr s t 0 0),_,_,_,λ C => ?_,h3,?_,hr.kb h1 h2 (.bx z) trivial (vQ hd) (λ h=>nomatch h)⟩
 ·simp only[m6,A9.m5,OL hd]
 ·simp only[CG.res,DI,EN,BU]
theorem sI {cs ds:List AV} {off n:Nat} (h:part cs off n=some ds):part (cs.map (BA σ)) off n=some (ds.map (BA σ)):=by
 simp only[part]at h ⊢;split at h
 ·rename_i hl
  rw[if_pos (by simpa using hl)];obtain rfl:=Option.some.inj h;rw[List.map_take,List.map_drop]
 ·cases h
theorem Adl {v:AV} {K:AV->Prop} (h:fF v K):v ≠ .any/\BI σ v=BA σ v/\K v:=by
 cases v<;>simp only[fF]at h<;>first|exact h.elim|exact ⟨(by intro e;cases e),rfl,h⟩
theorem eV (σ:F5) {agg:Bool} {ds:List AV} {K:AV->Prop} (h:wj agg ds K) : ∃ v,W9 agg (ds.map (BA σ))=some (BI σ v)/\K v:=by
 cases agg
 ·simp only[wj]at h
  split at h
  ·rename_i c
   obtain ⟨_,h1,h2⟩:=Adl (σ:=σ) h;exact ⟨c,by rw[h1];rfl,h2⟩
  ·exact h.elim
 ·exact ⟨.agg ds,rfl,h⟩
theorem Af2 {cs vs:List AV} {j:Nat}:(splice cs j vs).map (BA σ)=splice (cs.map (BA σ)) j (vs.map (BA σ)):=by
 simp only[splice,List.map_append,List.map_take,List.map_drop,List.length_map]
theorem Adr (hr:RX σ tm M st) : ∀ {ps:List (Nat × Nat × AP)} {cells:List AV} {K:List AV->Prop},xQ tm ps cells K -> ∃ cs,fill (cells.map (BA σ)) (ps.map λ p=>(p.1,p.2.1,st.ev p.2.2))=some (cs.map (BA σ))/\K cs
 | [],cells,K,h=>⟨cells,rfl,h⟩
 | p::r,cells,K,h=>by
  obtain ⟨h0,vs,hc,h⟩:=rE (show fC (ex tm p.2.2) λ vs=>bif Nat.beq vs.length p.2.1 then bif Nat.ble (p.1+p.2.1) cells.length then fL (splice cells p.1 vs) λ cells=>xQ tm r cells K else False else False from h);cases hz:Nat.beq vs.length p.2.1<;>simp only[hz,cond_true,cond_false]at h;have hl:Nat.ble (p.1+p.2.1) cells.length=true:=by
   cases hl:Nat.ble (p.1+p.2.1) cells.length
   ·rw[hl]at h;exact h.elim
   ·rfl
  rw[hl]at h;simp only[cond_true,IJ]at h;obtain ⟨cs,h1,h2⟩:=Adr hr h;refine ⟨cs,?_,h2⟩;simp only[List.map_cons,fill,hr.ev rfl h0,bM hc,List.length_map];rw[if_pos ⟨BN.1 hz,Nat.le_of_ble_eq_true hl⟩,<-Af2];exact h1
theorem AhQ {z:List AV} {ps:List (Nat × Nat × AP)} (hr:RX σ tm M st) (h:XE L tm M g9 K (.build z ps)):BV L tm g9 K (.build z ps) st:=by
 simp only[XE]at h;cases hd:EG z<;>simp only[hd,cond_true,cond_false]at h;obtain ⟨cs,h1,h2⟩:=Adr hr h;refine BV.val hr (.agg cs) (λ C => ?_) h2;rw[OL hd]at h1;simp only[m6,h1];rfl
theorem Adi : ∀ l:List AP,eH tm l=l.map (ex tm)
 | []=>rfl
 | x::r=>by rw[eH,Adi r];rfl
theorem Zl : ∀ {es:List (List AV)},mH es=true -> ∀ e∈es,EG e=true
 | e0::r,h,e,he=>by
  simp only[mH]at h;cases h1:EG e0<;>simp only[h1,cond_true,cond_false]at h
  ·cases h
  ·rcases List.mem_cons.1 he with rfl|he
   ·exact h1
   ·exact Zl h e he
theorem AjJ {es:List (List AV)} (h : ∀ e∈es,EG e=true):(es.map λ cs=>cs.map (BA σ))=es:=by
 conv=>rhs;rw[<-List.map_id es]
 exact List.map_congr_left λ e he=>OL (h e he)
theorem yY {es:List (List AV)} {K:Nat->Prop} (h:nF es K):K es.length:=by
 unfold nF at h;split at h<;>exact h
theorem Vz (hr:RX σ tm M st) {z:Nat} : ∀ {l:List AP} {K:List (List AV)->Prop},uW tm z l K -> ∃ es,l.mapM (λ x=>cellsOf (st.ev x))=some (es.map λ cs=>cs.map (BA σ))/\(∀ e∈es,e.length=z)/\(∀ k,JD k tm=false->OU k es=false)/\K es
 | [],K,h=>⟨[],rfl,(λ e he=>by cases he),λ_ _=>rfl,h⟩
 | x::r,K,h=>by
  obtain ⟨h0,cs,hc,h⟩:=rE (show fC (ex tm x) λ cs=>bif Nat.beq cs.length z then uW tm z r λ es=>K (cs::es) else False from h);cases hz:Nat.beq cs.length z<;>simp only[hz,cond_true,cond_false]at h;obtain ⟨es,h1,h2,h4,h3⟩:=Vz hr h;refine ⟨cs::es,?_,λ e he => ?_,λ k hk => ?_,h3⟩
  ·rw[List.mapM_cons,h1,hr.ev rfl h0,bM hc];rfl
  ·rcases List.mem_cons.1 he with rfl|he
   ·exact BN.1 hz
   ·exact h2 e he
  ·simp only[OU,Afs (Adj hk x) hc,cond_false,h4 k hk]
theorem evL (hr:RX σ tm M st) {xs:List AP} (h : ∀ v∈eH tm xs,v ≠ .any):xs.map st.ev=(eH tm xs).map (BI σ):=by
 rw[Adi]at h ⊢;rw[List.map_map];exact List.map_congr_left λ x hx=>hr.ev rfl (h _ (List.mem_map_of_mem hx))
theorem AhP {s z:Nat} {ps:List AP} (hr:RX σ tm M st) (h:XE L tm M g9 K (.m4 s z ps)):BV L tm g9 K (.m4 s z ps) st:=by
 simp only[XE]at h;cases km:E3 s<;>simp only[km,cond_true,cond_false]at h;obtain ⟨es,g1,g2,g3,h⟩:=Vz hr h;obtain ⟨k,h1,h2,h3⟩:=H4 (yY h);have key : ∀ c:A9,c.flat->HO k c=false->c.m5 σ k=⟨z,es.map λ cs=>cs.map (BA σ)⟩->K (.row k 0 z 0 es.length) ((k,s,c)::M)->BV L tm g9 K (.m4 s z ps) st:=by
  intro c hf hc hb hk;refine ⟨.new s (c.m5 σ k) (λ t => .row s t z 0 es.length),_,_,_,λ C => ?_,hk,?_,hr.kb h1 h2 c hf hc (λ_=>km)⟩
  ·simp only[m6,g1,hb]
   rw[if_pos (λ e he=>by obtain ⟨e',kt,rfl⟩:=List.mem_map.1 he;simpa using g2 e' kt)];simp only[List.length_map]
  ·simp only[CG.res,DI,BU]
 cases hd:mH es<;>simp only[hd,cond_true,cond_false]at h3
 ·exact key (.bs z es) trivial (g3 k h2) rfl h3
 ·exact key (.rw z es) trivial rfl (by simp only[A9.m5];rw[AjJ (Zl hd)]) h3
theorem Aie {x:AP} {off:Nat} (hr:RX σ tm M st) (h:XE L tm M g9 K (.a7 x off)):BV L tm g9 K (.a7 x off) st:=by
 simp only[XE]at h;split at h
 ·rename_i key t i j e
  exact BV.val hr _ (λ C=>by simp only[m6,hr.ev e (by intro e;cases e),HR,HQ,JI,DI,EN,OW,FM,IQ,NY]) h
 ·rename_i cs e
  rw[IJ]at h;exact BV.val hr _ (λ C=>by simp only[m6,hr.ev e (by intro e;cases e),HR,HQ,JI,DI,EN,OW,FM,IQ,NY]) h
 ·exact h.elim
theorem Aif {x:AP} {off n:Nat} {agg:Bool} (hr:RX σ tm M st) (h:XE L tm M g9 K (.ry x off n agg)):BV L tm g9 K (.ry x off n agg) st:=by
 simp only[XE]at h;split at h
 ·rename_i cs e
  split at h
  ·rename_i ds hp
   rw[IJ]at h;obtain ⟨v,h1,h2⟩:=eV σ h;exact BV.val hr v (λ C=>by simp only[m6,hr.ev e (by intro e;cases e),IQ,sI hp,h1,Option.map_some]) h2
  ·exact h.elim
 ·exact h.elim
theorem Aih {arr:Option Nat} {z:Nat} {x i:AP} (hr:RX σ tm M st) (h:XE L tm M g9 K (.b9 arr z x i)):BV L tm g9 K (.b9 arr z x i) st:=by
 simp only[XE]at h;split at h
 ·rename_i kd n e1
  split at h
  ·rename_i len key t i' j e2
   obtain ⟨h1,h2⟩:=h;exact BV.val hr _ (λ C=>by simp only[m6,hr.ev e1 (by intro e;cases e),hr.ev e2 (by intro e;cases e),HR,HQ,JI,DI,EN,OW,FM,IQ,NY];rw[if_pos h1]) h2
  ·rename_i len cs e2
   obtain ⟨h1,h2⟩:=h;rw[IJ]at h2;exact BV.val hr _ (λ C=>by simp only[m6,hr.ev e1 (by intro e;cases e),hr.ev e2 (by intro e;cases e),HR,HQ,JI,DI,EN,OW,FM,IQ,NY];rw[if_pos h1]) h2
  ·rename_i key t z' off len e2
   cases hz:Nat.beq z' z<;>simp only[hz,cond_true,cond_false]at h;obtain ⟨h1,h2⟩:=h;exact BV.val hr _ (λ C=>by simp only[m6,hr.ev e1 (by intro e;cases e),hr.ev e2 (by intro e;cases e),HR,HQ,JI,DI,EN,OW,FM,IQ,NY];rw[if_pos ⟨h1.1,h1.2,BN.1 hz⟩]) h2
  ·rename_i q es e2
   obtain ⟨h1,cs,h2,h3,h4⟩:=h;exact BV.val hr _ (λ C=>by simp only[m6,hr.ev e1 (by intro e;cases e),hr.ev e2 (by intro e;cases e),HR,HQ,JI,DI,EN,OW,FM,IQ,NY,h2];rw[if_pos h1,if_pos h3]) h4
  ·exact h.elim
 ·exact h.elim
theorem kO {s:Nat} {own:AH} : ∀ {g9:List Nat},fA s g9=true->own.z0 g9 s=own s
 | [],_=>rfl
 | b::r,h=>by
  have hm:dF s (b::r)=false:=by simpa [fA] using h
  have : ∀ l:List Nat,dF s l=false->own.z0 l s=own s:=by
   intro l;induction l with
   | nil=>intro _;rfl
   | cons b r ih =>
    intro h;simp only[dF]at h;cases hb:Nat.beq s b<;>simp only[hb,cond_true,cond_false]at h
    ·simp only[AH.z0]
     rw[if_neg (FR.1 hb)];exact ih h
    ·cases h
  exact this _ hm
theorem zU {s:Nat} {own:AH} (hs:E3 s=true) : ∀ {g9:List Nat},iD g9=true->own.z0 g9 s=own s
 | [],_=>rfl
 | b::r,h=>by
  simp only[iD]at h;cases hb:E3 b<;>simp only[hb,cond_true,cond_false]at h
  ·have u7:s≠b:=λ e=>by rw[e,hb]at hs;cases hs
   show (if s=b then _ else own.z0 r s)=own s;rw[if_neg u7];exact zU hs h
  ·cases h
theorem Aij {agg:Bool} {n:Nat} {x:AP} (hr:RX σ tm M st) (h:XE L tm M g9 K (.ld agg n x)):BV L tm g9 K (.ld agg n x) st:=by
 simp only[XE]at h;split at h
 ·rename_i key t i j e
  split at h
  ·rename_i s c hm
   have hs:=hr.sat.site _ _ _ hm;split at h
   ·cases hb:fA s g9<;>simp only[hb,cond_true,cond_false]at h
    have ek:=hr.sat.m5 _ _ _ (EM hm);rw[hs]at ek;split at h
    ·rename_i cs
     cases hi:Nat.beq i 0<;>simp only[hi,cond_true,cond_false]at h;obtain rfl:=BN.1 hi;split at h
     ·rename_i ds hp
      rw[IJ]at h;obtain ⟨v,h1,h2⟩:=eV σ h;exact BV.val hr v (λ C=>by
       simp only[m6,hr.ev e (by intro e;cases e),EN,AH.uj,AH.get,hs];rw[kO hb,ek];simp only[A9.m5,List.getElem?_cons_zero,sI hp,h1,Option.map_some]) h2
     ·exact h.elim
    ·rename_i z es
     obtain ⟨cs,ds,g1,g2,h⟩:=h;rw[IJ]at h;cases hd:EG ds<;>simp only[hd,cond_true,cond_false]at h;obtain ⟨v,h1,h2⟩:=eV σ h;rw[OL hd]at h1;exact BV.val hr v (λ C=>by
      simp only[m6,hr.ev e (by intro e;cases e),EN,AH.uj,AH.get,hs];rw[kO hb,ek];simp only[A9.m5,g1,g2,h1,Option.map_some]) h2
    ·rename_i z es
     split at h
     ·rename_i cs g1
      split at h
      ·rename_i ds hp
       rw[IJ]at h;obtain ⟨v,h1,h2⟩:=eV σ h;exact BV.val hr v (λ C=>by
        simp only[m6,hr.ev e (by intro e;cases e),EN,AH.uj,AH.get,hs];rw[kO hb,ek];simp only[A9.m5,List.getElem?_map,g1,Option.map_some,sI hp,h1]) h2
      ·exact h.elim
     ·exact h.elim
    ·rename_i rows
     cases hj:Nat.beq j 0<;>simp only[hj,cond_true,cond_false]at h;cases hn:Nat.beq n 1<;>simp only[hn,cond_true,cond_false]at h;obtain rfl:=BN.1 hj;obtain rfl:=BN.1 hn;obtain ⟨r,g1,h⟩:=h;have fin : ∀ c:AV,(B9 σ key 0 rows)[i]? = some [BA σ c]->wj agg [c] (λ v=>K v M)->BV L tm g9 K (.ld agg 1 x) st:=by
      intro c hc h;obtain ⟨v,h1,h2⟩:=eV σ h;have hp:part [BA σ c] 0 1=some [BA σ c]:=by simp [part]
      exact BV.val hr v (λ C=>by
       simp only[m6,hr.ev e (by intro e;cases e),EN,AH.uj,AH.get,hs];rw[kO hb,ek];simp only[A9.m5,hc,hp];simp only[List.map_cons,List.map_nil]at h1;simp only[h1,Option.map_some]) h2
     split at h
     ·rename_i z es
      exact fin _ (by rw[FD,g1];simp [BA]) h
     ·exact fin _ (by rw[FD,g1];simp [BA]) h
    ·exact h.elim
    ·exact h.elim
   ·rename_i i'
    split at h
    ·rename_i rows
     obtain ⟨z,es,g0,cs,ds,g1,g2,h⟩:=h;rw[IJ]at h;cases hd:EG ds<;>simp only[hd,cond_true,cond_false]at h;obtain ⟨v,h1,h2⟩:=eV σ h;rw[OL hd]at h1;have ek:=hr.sat.m5 key (i'+1) (.rw z es) (by simp [g8,hm,g0]);exact BV.val hr v (λ C=>by
      simp only[m6,hr.ev e (by intro e;cases e),EN,AH.uj,AH.get,AH.z0];rw[ek];simp only[A9.m5,g1,g2,h1,Option.map_some]) h2
    ·rename_i rows b r
     cases hb:iD (b::r)<;>simp only[hb,cond_true,cond_false]at h;obtain ⟨z,es,g0,cs,ds,g1,g2,h⟩:=h;rw[IJ]at h;cases hd:EG ds<;>simp only[hd,cond_true,cond_false]at h;obtain ⟨v,h1,h2⟩:=eV σ h;rw[OL hd]at h1;have g':g8 M key (i'+1)=some (.rw z es):=by simp [g8,hm,g0]
     have ek:=hr.sat.m5 key (i'+1) (.rw z es) g';have km:=hr.sat.low key (i'+1) _ g' rfl;exact BV.val hr v (λ C=>by
      simp only[m6,hr.ev e (by intro e;cases e),EN,AH.uj,AH.get];rw[zU km hb,ek];simp only[A9.m5,g1,g2,h1,Option.map_some]) h2
    ·exact h.elim
  ·exact h.elim
 ·rename_i cs e
  split at h
  ·rename_i ds hp
   rw[IJ]at h;cases hd:EG ds<;>simp only[hd,cond_true,cond_false]at h;obtain ⟨v,h1,h2⟩:=eV σ h;rw[OL hd]at h1;exact BV.val hr v (λ C=>by simp only[m6,hr.ev e (by intro e;cases e),OW,hp,h1,Option.map_some]) h2
  ·exact h.elim
 ·exact h.elim
theorem Xl {n:Nat} {x v:AP} (hr:RX σ tm M st) (h:XE L tm M g9 K (.st n x v)):BV L tm g9 K (.st n x v) st:=by
 simp only[XE,Uq]at h;split at h
 ·rename_i key t i j e
  obtain ⟨h0,vs,hc,h5⟩:=rE h;clear h;cases hn:Nat.beq vs.length n<;>simp only[hn,cond_true,cond_false]at h5;have vq:=BN.1 hn;split at h5
  ·rename_i s c hm
   have hs:=hr.sat.site _ _ _ hm;split at h5
   ·have ek:=hr.sat.m5 _ _ _ (EM hm)
    rw[hs]at ek;split at h5
    ·rename_i cs
     cases hi:Nat.beq i 0<;>simp only[hi,cond_true,cond_false]at h5;obtain rfl:=BN.1 hi;have hl:Nat.ble (j+vs.length) cs.length=true:=by
      cases hl:Nat.ble (j+vs.length) cs.length
      ·rw[hl]at h5;exact h5.elim
      ·rfl
     rw[hl]at h5;simp only[cond_true,IJ]at h5;refine ⟨.jc (.m9 []) (st.own.put s ((st.own s).bg (σ key 0).2 (some (A9.m5 σ key (.bx (splice cs j vs)))))),σ,_,_,λ C => ?_,h5,rfl,hr.Ur hm trivial _ trivial (λ h=>nomatch h)⟩;simp only[m6,hr.ev e (by intro e;cases e),EN,hr.ev rfl h0,bM hc,List.length_map];rw[if_pos vq];simp only[AH.pz,AH.get,hs,ek,A9.m5,List.getElem?_cons_zero,List.length_map];rw[if_pos (Nat.le_of_ble_eq_true hl)];simp only[Option.map_some,List.set_cons_zero,Af2];have:(splice cs j vs).length=cs.length:=by
      have:=Nat.le_of_ble_eq_true hl
      simp only[splice,List.length_append,List.length_take,List.length_drop];omega
     rw[this]
    ·rename_i z es
     cases hd:EG vs<;>simp only[hd,cond_true,cond_false]at h5;obtain ⟨cs,g1,g2,h5⟩:=h5;refine ⟨.jc (.m9 []) (st.own.put s ((st.own s).bg (σ key 0).2 (some (A9.m5 σ key (.rw z (es.set i (splice cs j vs))))))),σ,_,_,λ C => ?_,h5,rfl,hr.Ur hm trivial _ trivial (λ_=>rfl)⟩;simp only[m6,hr.ev e (by intro e;cases e),EN,hr.ev rfl h0,bM hc,OL hd];rw[if_pos vq];simp only[AH.pz,AH.get,hs,ek,A9.m5,g1];rw[if_pos g2];rfl
    ·exact h5.elim
    ·rename_i rows
     split at h5
     ·rename_i dv z m
      cases kv:Nat.beq key dv<;>simp only[kv,cond_true,cond_false]at h5;cases gf:PL key tm<;>simp only[gf,cond_true,cond_false]at h5;cases pf:JY key M<;>simp only[pf,cond_true,cond_false]at h5;cases hj:Nat.beq j 0<;>simp only[hj,cond_true,cond_false]at h5;obtain rfl:=BN.1 hj;split at h5
      ·rename_i s2 z' es np
       cases hz:Nat.beq z z'<;>simp only[hz,cond_true,cond_false]at h5;obtain rfl:=BN.1 hz;rw[XP]at h5;obtain ⟨rfl,hi,h5⟩:=h5;have hlen:(B9 σ key 0 rows)[i]? = some ((B9 σ key 0 rows)[i]'(by rw[FE];exact hi)):=zE _;have pq:((B9 σ key 0 rows)[i]'(by rw[FE];exact hi)).length=1:=by
        have:=FD (σ:=σ) (k:=key) rows 0 i
        rw[hlen,zE hi]at this;simp only[Option.map_some,Option.some.injEq]at this;rw[this];split<;>rfl
       refine ⟨.jc (.m9 []) (st.own.put s ((st.own s).bg (σ key 0).2 (some ⟨1,(B9 σ key 0 rows).set i [.row (σ dv 0).1 (σ dv 0).2 z 0 es.length]⟩))),_,_,_,λ C => ?_,h5,rfl,hr.Fv hm (Or.inl rfl) np (FR.1 kv) gf pf hi⟩;simp only[m6,hr.ev e (by intro e;cases e),EN,hr.ev rfl h0,bM hc,List.length_map];rw[if_pos vq];simp only[AH.pz,AH.get,hs,ek,A9.m5,hlen,List.map_cons,List.map_nil,List.length_cons,List.length_nil,BA];rw[if_pos (by omega)];simp only[Option.map_some];have Kb:splice ((B9 σ key 0 rows)[i]'(by rw[FE];exact hi)) 0 [.row (σ dv 0).1 (σ dv 0).2 z 0 es.length]=[.row (σ dv 0).1 (σ dv 0).2 z 0 es.length]:=by
        simp only[splice,List.take_zero,List.nil_append,List.length_cons,List.length_nil,Nat.zero_add];rw[List.drop_of_length_le (by omega)];rfl
       rw[Kb]
      ·exact h5.elim
     ·rename_i dv t2 z m
      cases kv:Nat.beq key dv<;>simp only[kv,cond_true,cond_false]at h5;cases hj:Nat.beq j 0<;>simp only[hj,cond_true,cond_false]at h5;obtain rfl:=BN.1 hj;obtain rfl:=BN.1 kv;obtain ⟨z',es,g0,h5⟩:=h5;cases hz:Nat.beq z z'<;>simp only[hz,cond_true,cond_false]at h5;obtain rfl:=BN.1 hz;obtain ⟨⟨rfl,hi⟩,h5⟩:=h5;have bn:A9.m5 σ key (.vw ((List.range rows.length).set i t2) rows)=⟨1,(B9 σ key 0 rows).set i [.row (σ key (t2+1)).1 (σ key (t2+1)).2 z 0 es.length]⟩:=by
       simp only[A9.m5];congr 1;apply List.ext_getElem?;intro p;rw[List.getElem?_map];by_cases hp:i=p
       ·subst hp
        rw[List.getElem?_set_self (by rw[List.length_range];exact hi),List.getElem?_set_self (by rw[FE];exact hi),Option.map_some,FD,g0];simp
       ·rw[List.getElem?_set_ne hp,List.getElem?_set_ne hp,FD]
        by_cases Gt:p<rows.length
        ·rw[List.getElem?_range Gt,Option.map_some,FD,zE Gt,Option.map_some,Option.getD_some]
        ·rw[List.getElem?_eq_none (by rw[List.length_range];omega),List.getElem?_eq_none (by omega)];rfl
      have hv:=hr.view (w:=(List.range rows.length).set i t2) hm (Or.inl rfl);have hlen:(B9 σ key 0 rows)[i]? = some ((B9 σ key 0 rows)[i]'(by rw[FE];exact hi)):=zE _;have pq:((B9 σ key 0 rows)[i]'(by rw[FE];exact hi)).length=1:=by
       have:=FD (σ:=σ) (k:=key) rows 0 i
       rw[hlen,zE hi]at this;simp only[Option.map_some,Option.some.injEq]at this;rw[this];split<;>rfl
      refine ⟨.jc (.m9 []) (st.own.put s ((st.own s).bg (σ key 0).2 (some (A9.m5 σ key (.vw ((List.range rows.length).set i t2) rows))))),_,_,_,λ C => ?_,h5,rfl,hv⟩;rw[bn];simp only[m6,hr.ev e (by intro e;cases e),EN,hr.ev rfl h0,bM hc,List.length_map];rw[if_pos vq];simp only[AH.pz,AH.get,hs,ek,A9.m5,hlen,List.map_cons,List.map_nil,List.length_cons,List.length_nil,BA];rw[if_pos (by omega)];simp only[Option.map_some];have Kb:splice ((B9 σ key 0 rows)[i]'(by rw[FE];exact hi)) 0 [.row (σ key (t2+1)).1 (σ key (t2+1)).2 z 0 es.length]=[.row (σ key (t2+1)).1 (σ key (t2+1)).2 z 0 es.length]:=by
       simp only[splice,List.take_zero,List.nil_append,List.length_cons,List.length_nil,Nat.zero_add];rw[List.drop_of_length_le (by omega)];rfl
      rw[Kb]
     ·exact h5.elim
    ·rename_i i0 v0 rows
     split at h5
     ·rename_i dv z m
      cases kv:Nat.beq key dv<;>simp only[kv,cond_true,cond_false]at h5;cases gf:PL key tm<;>simp only[gf,cond_true,cond_false]at h5;cases pf:JY key M<;>simp only[pf,cond_true,cond_false]at h5;cases hj:Nat.beq j 0<;>simp only[hj,cond_true,cond_false]at h5;obtain rfl:=BN.1 hj;split at h5
      ·rename_i s2 z' es np
       cases hz:Nat.beq z z'<;>simp only[hz,cond_true,cond_false]at h5;obtain rfl:=BN.1 hz;rw[XP]at h5;obtain ⟨⟨rfl,rfl⟩,hi,h5⟩:=h5;refine ⟨.jc (.m9 []) (st.own.put s ((st.own s).bg (σ key 0).2 (some ⟨1,(B9 σ key 0 rows).set i [.row (σ dv 0).1 (σ dv 0).2 z 0 es.length]⟩))),_,_,_,λ C => ?_,h5,rfl,hr.Fv hm (Or.inr ⟨v0,rfl⟩) np (FR.1 kv) gf pf hi⟩;simp only[m6,hr.ev e (by intro e;cases e),EN,hr.ev rfl h0,bM hc,List.length_map];rw[if_pos vq];simp only[AH.pz,AH.get,hs,ek,A9.m5,List.getElem?_set_self (show i<(B9 σ key 0 rows).length by rw[FE];exact hi),List.map_cons,List.map_nil,List.length_cons,List.length_nil,BA];rw[if_pos (by omega)];simp only[Option.map_some,List.set_set];rfl
      ·exact h5.elim
     ·exact h5.elim
    ·rename_i w rows
     split at h5
     ·rename_i dv t2 z m
      cases kv:Nat.beq key dv<;>simp only[kv,cond_true,cond_false]at h5;cases hj:Nat.beq j 0<;>simp only[hj,cond_true,cond_false]at h5;obtain rfl:=BN.1 hj;obtain rfl:=BN.1 kv;obtain ⟨z',es,g0,h5⟩:=h5;cases hz:Nat.beq z z'<;>simp only[hz,cond_true,cond_false]at h5;obtain rfl:=BN.1 hz;obtain ⟨⟨rfl,hi,hwr⟩,h5⟩:=h5;have bn:A9.m5 σ key (.vw (w.set i t2) rows)=⟨1,(w.map λ t=>((B9 σ key 0 rows)[t]?).getD []).set i [.row (σ key (t2+1)).1 (σ key (t2+1)).2 z 0 es.length]⟩:=by
       simp only[A9.m5];congr 1;apply List.ext_getElem?;intro p;rw[List.getElem?_map];by_cases hp:i=p
       ·subst hp
        rw[List.getElem?_set_self hi,List.getElem?_set_self (by rw[List.length_map];exact hi),Option.map_some,FD,g0];simp
       ·rw[List.getElem?_set_ne hp,List.getElem?_set_ne hp,List.getElem?_map]
      have hv:=hr.view (w:=w.set i t2) hm (Or.inr ⟨w,rfl⟩);have hlen:(w.map λ t=>((B9 σ key 0 rows)[t]?).getD [])[i]? = some ((w.map λ t=>((B9 σ key 0 rows)[t]?).getD [])[i]'(by rw[List.length_map];exact hi)):=zE _;have pq:((w.map λ t=>((B9 σ key 0 rows)[t]?).getD [])[i]'(by rw[List.length_map];exact hi)).length=1:=by
       rw[List.getElem_map];have v9:=hwr w[i] (List.getElem_mem hi);rw[FD,zE v9];simp only[Option.map_some,Option.getD_some];split<;>rfl
      refine ⟨.jc (.m9 []) (st.own.put s ((st.own s).bg (σ key 0).2 (some (A9.m5 σ key (.vw (w.set i t2) rows))))),_,_,_,λ C => ?_,h5,rfl,hv⟩;rw[bn];simp only[m6,hr.ev e (by intro e;cases e),EN,hr.ev rfl h0,bM hc,List.length_map];rw[if_pos vq];simp only[AH.pz,AH.get,hs,ek,A9.m5,hlen,List.map_cons,List.map_nil,List.length_cons,List.length_nil,BA];rw[if_pos (by omega)];simp only[Option.map_some];have Kb:splice ((w.map λ t=>((B9 σ key 0 rows)[t]?).getD [])[i]'(by rw[List.length_map];exact hi)) 0 [.row (σ key (t2+1)).1 (σ key (t2+1)).2 z 0 es.length]=[.row (σ key (t2+1)).1 (σ key (t2+1)).2 z 0 es.length]:=by
       simp only[splice,List.take_zero,List.nil_append,List.length_cons,List.length_nil,Nat.zero_add];rw[List.drop_of_length_le (by omega)];rfl
      rw[Kb]
     ·exact h5.elim
   ·rename_i i'
    split at h5
    ·rename_i rows
     cases hd:EG vs<;>simp only[hd,cond_true,cond_false]at h5;obtain ⟨z,es,g0,cs,g1,g2,g3,h5⟩:=h5;have ek:=hr.sat.m5 key (i'+1) (.rw z es) (by simp [g8,hm,g0]);refine ⟨.jc (.m9 []) (st.own.put (σ key (i'+1)).1 ((st.own (σ key (i'+1)).1).bg (σ key (i'+1)).2 (some ⟨z,es.set i (splice cs j vs)⟩))),σ,_,_,λ C => ?_,h5,rfl,hr.Um hm g0 g3⟩;simp only[m6,hr.ev e (by intro e;cases e),EN,hr.ev rfl h0,bM hc,OL hd];rw[if_pos vq];simp only[AH.pz,AH.get,ek,A9.m5,g1];rw[if_pos g2];rfl
    ·exact h5.elim
  ·exact h5.elim
 ·exact h.elim
theorem Ail {s z bytes:Nat} {zero:List AV} {a c:AP} (hr:RX σ tm M st) (h:XE L tm M g9 K (.mk s z bytes zero a c)):BV L tm g9 K (.mk s z bytes zero a c) st:=by
 simp only[XE]at h;split at h
 ·rename_i k1 p k2 q e1 e2
  cases hz:Nat.beq zero.length z<;>simp only[hz,cond_true,cond_false]at h;cases hd:EG zero<;>simp only[hd,cond_true,cond_false]at h;split at h
  ·cases km:E3 s<;>simp only[km,cond_true,cond_false]at h
   obtain ⟨⟨g1,g2,g3,g4⟩,h⟩:=h;obtain ⟨k,h1,h2,h3⟩:=H4 h;have ik:A9.flat (.mx (List.replicate p.toNat none)):=by
    intro i x hx;have:=List.getElem?_replicate (n:=p.toNat) (a:=(none:Option (Nat × List (List AV)))) (i:=i)
    rw[this]at hx;split at hx<;>cases hx
   have mq:z=1:=(BN.1 hz).symm;have jk:A9.m5 σ k (.mx (List.replicate p.toNat none))=⟨z,List.replicate p.toNat [.nil]⟩:=by
    simp only[A9.m5,mq];congr 1;have : ∀ (n i:Nat),B9 σ k i (List.replicate n none)=List.replicate n [AV.nil]:=by
     intro n;induction n with
     | zero=>intro i;rfl
     | succ n ih=>intro i;rw[List.replicate_succ,List.replicate_succ,B9,ih]
    exact this _ _
   refine ⟨.new s (A9.m5 σ k (.mx (List.replicate p.toNat none))) (λ t => .row s t z 0 p.toNat),_,_,_,λ C => ?_,h3,?_,hr.kb h1 h2 (.mx _) ik rfl (λ_=>km)⟩
   ·simp only[m6,hr.ev e1 (by intro e;cases e),hr.ev e2 (by intro e;cases e),HR,jk]
    rw[if_pos ⟨g1,g2,g3,g4,BN.1 hz⟩]
   ·simp only[CG.res,DI,BU]
  ·cases km:E3 s<;>simp only[km,cond_true,cond_false]at h
   obtain ⟨⟨g1,g2,g3,g4⟩,h⟩:=h;obtain ⟨k,h1,h2,h3⟩:=H4 h;refine ⟨.new s ⟨z,List.replicate p.toNat zero⟩ (λ t => .row s t z 0 p.toNat),_,_,_,λ C => ?_,h3,?_,hr.kb h1 h2 (.rw z _) trivial rfl (λ_=>km)⟩
   ·simp only[m6,hr.ev e1 (by intro e;cases e),hr.ev e2 (by intro e;cases e),HR]
    rw[if_pos ⟨g1,g2,g3,g4,BN.1 hz⟩]
   ·simp only[CG.res,DI,BU]
 ·exact h.elim
theorem Adk {v:AV} {K:AV->Prop} (h:f2 v K):v ≠ .any/\BI σ v=BR σ v/\K v:=by
 cases v<;>simp only[f2,IJ]at h<;>first|exact h.elim|exact ⟨(by intro e;cases e),rfl,h⟩
theorem Aek : ∀ (vs:List AV) (i:Nat),Cg vs i ≠ .any->vs[i]? = some (Cg vs i)
 | [],_,h=>absurd rfl h
 | _::_,0,_=>rfl
 | _::r,i+1,h=>Aek r i h
theorem AhT {x:AP} {i:Nat} (hr:RX σ tm M st) (h:XE L tm M g9 K (.ext x i)):BV L tm g9 K (.ext x i) st:=by
 simp only[XE]at h;split at h
 ·rename_i vs e
  obtain ⟨h1,h2,h3⟩:=Adk (σ:=σ) h;refine BV.val hr _ (λ C => ?_) h3;simp only[m6,hr.ev e (by intro e;cases e),NY,List.getElem?_map,Aek vs i h1,Option.map_some,h2]
 ·exact h.elim
theorem Aik {x:AP} (hr:RX σ tm M st) (h:XE L tm M g9 K (.len x)):BV L tm g9 K (.len x) st:=by
 simp only[XE]at h;split at h
 ·rename_i q es e
  exact BV.val hr _ (λ C=>by simp only[m6,hr.ev e (by intro e;cases e),JI,dD];rfl) h
 ·rename_i e
  exact BV.val hr _ (λ C=>by simp only[m6,hr.ev e (by intro e;cases e),FM,dD];rfl) h
 ·rename_i e
  exact BV.val hr _ (λ C=>by simp only[m6,hr.ev e (by intro e;cases e),DI,dD];rfl) h
 ·exact h.elim
theorem AeG {mx:Bool} {k:IntKind} {K:AV->Prop} : ∀ {l:List AV} {a:Int},iC mx k K a l -> ∃ n,WN mx (.int k a) l=some (.int k n)/\K (.int k n)/\(∀ v∈l,v ≠ .any/\BI σ v=v)
 | [],a,h=>⟨a,rfl,h,λ v hv=>by cases hv⟩
 | v::r,a,h=>by
  cases v with
  | int k' b =>
   have h:(bif mx then AF (a<b) (b<=a) (iC mx k K b r) (iC mx k K a r) else AF (b<a) (a<=b) (iC mx k K b r) (iC mx k K a r)):=h;have fin : ∀ c:Int,dH mx (.int k a) (.int k' b)=some (.int k c)->iC mx k K c r -> ∃ n,WN mx (.int k a) (.int k' b::r)=some (.int k n)/\K (.int k n)/\(∀ v∈AV.int k' b::r,v ≠ .any/\BI σ v=v):=by
    intro c hc hx;obtain ⟨n,h1,h2,h3⟩:=AeG hx;refine ⟨n,by simp only[WN,hc,h1],h2,λ v hv => ?_⟩;rcases List.mem_cons.1 hv with rfl|hv
    ·exact ⟨(by intro e;cases e),rfl⟩
    ·exact h3 v hv
   cases mx
   ·simp only[cond_false]at h
    by_cases hc:b<a
    ·exact fin b (by simp [dH,hc]) (h.1 hc)
    ·exact fin a (by simp [dH,hc]) (h.2 (by omega))
   ·simp only[cond_true]at h
    by_cases hc:a<b
    ·exact fin b (by simp [dH,hc]) (h.1 hc)
    ·exact fin a (by simp [dH,hc]) (h.2 (by omega))
  | _=>exact (h:False).elim
theorem Aio {mx:Bool} {xs:List AP} (hr:RX σ tm M st) (h:XE L tm M g9 K (.mm mx xs)):BV L tm g9 K (.mm mx xs) st:=by
 simp only[XE]at h;split at h
 ·rename_i k a r e
  obtain ⟨n,h1,h2,h3⟩:=AeG (σ:=σ) h;refine BV.val hr (.int k n) (λ C => ?_) h2;have hx : ∀ v∈eH tm xs,v ≠ .any:=by
   rw[e];intro v hv;rcases List.mem_cons.1 hv with rfl|hv
   ·intro e;cases e
   ·exact (h3 v hv).1
  have hm:(eH tm xs).map (BI σ) = .int k a::r:=by
   rw[e,List.map_cons];congr 1;conv=>rhs;rw[<-List.map_id r]
   exact List.map_congr_left λ v hv=>(h3 v hv).2
  simp only[m6];rw[show xs.map st.ev = .int k a::r from (evL hr hx).trans hm];simp only[h1,Option.map_some,HR]
 ·exact h.elim
theorem ApF (hr:RX σ tm M st) {k t:Nat} {K:Nat->List (List AV)->Prop} (h:Uo M k t K) : ∃ z es,(st.own (σ k t).1).m5 (σ k t).2=some ⟨z,es⟩/\K z es:=by
 unfold Uo at h;split at h
 ·rename_i s c hm
  split at h
  ·split at h
   ·exact ⟨_,_,hr.sat.m5 _ _ _ (EM hm),h⟩
   ·exact h.elim
  ·rename_i i
   split at h
   ·rename_i rows
    obtain ⟨z,es,g,h⟩:=h;exact ⟨z,es,hr.sat.m5 k (i+1) (.rw z es) (by simp [g8,hm,g]),h⟩
   ·exact h.elim
 ·exact h.elim
theorem Aqg {own w8:AH} {s t i j:Nat} {vs:List AV} (h:own.pz s t i j vs=some w8):own.put s (w8 s)=w8:=by
 unfold AH.pz at h;cases hg:own.get s t with
 | none=>simp [hg]at h
 | some b =>
  simp only[hg]at h;cases he:b.es[i]? with
  | none=>simp [he]at h
  | some cs =>
   simp only[he]at h;split at h
   ·obtain rfl:=Option.some.inj h
    rw[AH.o4]
   ·cases h
theorem Ait {s n:Nat} {x v:AP} (hr:RX σ tm M st) (h:XE L tm M g9 K (.rm s n x v)):BV L tm g9 K (.rm s n x v) st:=by
 simp only[XE]at h;split at h
 ·rename_i key i j e1
  split at h
  ·rename_i s' c hm
   cases hb:Nat.beq s' s<;>simp only[hb,cond_true,cond_false]at h;obtain rfl:=BN.1 hb;have ka:=hr.sat.site _ _ _ hm;obtain ⟨E,σ',v',M',h1,h2,h3,h4⟩:=Xl (g9:=g9) (L:=L) hr (show XE L tm M g9 K (.st n x v) from h);have fq:=hr.ev e1 (by intro e;cases e);rw[EN,ka]at fq;have key : ∀ vs,cellsOf (st.ev v)=some vs->vs.length=n -> ∃ o',st.own.pz s' (σ key 0).2 i j vs=some o'/\E = .jc (.m9 []) o':=λ vs me hn=>by
    have:=h1 0
    simp only[m6,fq,me]at this;rw[if_pos hn,Option.map_eq_some_iff]at this;obtain ⟨o',a1,a2⟩:=this;exact ⟨o',a1,a2.symm⟩
   cases me:cellsOf (st.ev v) with
   | none=>have:=h1 0;simp [m6,fq,me]at this
   | some vs =>
    by_cases hn:vs.length=n
    ·obtain ⟨o',a1,rfl⟩:=key vs me hn
     refine ⟨.bg s' (o' s'),σ',v',M',λ C => ?_,h2,h3,?_⟩
     ·simp only[m6,fq,me]
      rw[if_pos ⟨trivial,hn⟩,a1];rfl
     ·have e2:(CG.res st.own (.bg s' (o' s'))).2=o':=Aqg a1
      rw[e2];exact h4
    ·have:=h1 0
     simp only[m6,fq,me]at this;rw[if_neg hn]at this;cases this
  ·exact h.elim
 ·exact h.elim
theorem Aii {ne:Bool} {x:AP} (hr:RX σ tm M st) (h:XE L tm M g9 K (.xm ne x)):BV L tm g9 K (.xm ne x) st:=by
 simp only[XE]at h;split at h
 ·rename_i e1
  rw[cY]at h;exact BV.val hr _ (λ C=>by simp only[m6,hr.ev e1 (by intro e;cases e),FM,HQ]) h
 ·rename_i b e1
  rw[cY]at h;exact BV.val hr _ (λ C=>by simp only[m6,hr.ev e1 (by intro e;cases e),ApG,HQ]) h
 ·rename_i q es e1
  obtain ⟨h0,h⟩:=h;rw[cY]at h;cases es with
  | nil=>exact absurd rfl h0
  | cons e es=>exact BV.val hr _ (λ C=>by simp only[m6,hr.ev e1 (by intro e;cases e),JI,HQ]) h
 ·rename_i s t z o n e1
  obtain ⟨h0,h⟩:=h;rw[cY]at h;cases n with
  | zero=>exact absurd h0 (by omega)
  | succ n=>exact BV.val hr _ (λ C=>by simp only[m6,hr.ev e1 (by intro e;cases e),DI,HQ]) h
 ·exact h.elim
theorem AhR {x:AP} (hr:RX σ tm M st) (h:XE L tm M g9 K (.ju x)):BV L tm g9 K (.ju x) st:=by
 simp only[XE]at h;split at h
 ·rename_i e
  exact BV.val hr _ (λ C=>by simp only[m6,hr.ev e (by intro e;cases e),FM];rfl) h
 ·exact h.elim
theorem AhL {s z bytes:Nat} {x y:AP} (hr:RX σ tm M st) (h:XE L tm M g9 K (.ru s z bytes x y)):BV L tm g9 K (.ru s z bytes x y) st:=by
 simp only[XE]at h;split at h
 ·rename_i k n e1 e2
  cases km:E3 s<;>simp only[km,cond_true,cond_false]at h;obtain ⟨⟨g1,g2,g3⟩,h⟩:=h;obtain ⟨k,h1,h2,h3⟩:=H4 h;refine ⟨.new s ⟨z,[]⟩ (λ t => .row s t z 0 n.toNat),_,_,_,λ C => ?_,h3,?_,hr.kb h1 h2 (.rw z []) trivial rfl (λ_=>km)⟩
  ·simp only[m6,hr.ev e1 (by intro e;cases e),hr.ev e2 (by intro e;cases e),HR,FM]
   rw[if_pos ⟨g1,g2,g3⟩]
  ·simp only[CG.res,DI,BU]
 ·exact h.elim
theorem Air {tb:List Nat} {x:AP} (hr:RX σ tm M st) (h:XE L tm M g9 K (.lu tb x)):BV L tm g9 K (.lu tb x) st:=by
 simp only[XE]at h;split at h
 ·rename_i k n e1
  obtain ⟨h0,v,h1,h2⟩:=h;exact BV.val hr _ (λ C=>by simp only[m6,hr.ev e1 (by intro e;cases e),HR,h1];rw[if_pos h0]) h2
 ·exact h.elim
theorem AmE {v:AV} {K:AV->Prop} (h:fF v K):v ≠ .any/\G4 (BI σ v)=some (BA σ v)/\K v:=by
 cases v<;>first|exact (h:False).elim|exact ⟨(by intro e;cases e),rfl,h⟩
theorem AeS (hr:RX σ tm M st) : ∀ {l:List AP} {K:List AV->Prop},zQ tm l K -> ∃ cs,l.mapM (λ x=>G4 (st.ev x))=some (cs.map (BA σ))/\K cs
 | [],K,h=>⟨[],rfl,h⟩
 | x::r,K,h=>by
  obtain ⟨h0,hc,h⟩:=AmE (σ:=σ) (show fF (ex tm x) λ v=>zQ tm r λ cs=>K (v::cs) from h);obtain ⟨cs,h1,h2⟩:=AeS hr h;refine ⟨ex tm x::cs,?_,h2⟩;rw[List.mapM_cons,h1,hr.ev rfl h0,hc];rfl
theorem Ain {p:Bool} {f:Nat} {xs:List AP} (hr:RX σ tm M st) (h:XE L tm M g9 K (.um p f xs)):BV L tm g9 K (.um p f xs) st:=by
 simp only[XE]at h;obtain ⟨cs,h1,h2⟩:=AeS hr h;exact BV.val hr _ (λ C=>by simp only[m6,h1,Option.map_some,oA,List.isEmpty_map];rfl) h2
theorem Aim {f:Nat} {x:AP} (hr:RX σ tm M st) (h:XE L tm M g9 K (.wi f x)):BV L tm g9 K (.wi f x) st:=by
 simp only[XE]at h;split at h
 ·rename_i c cs e1
  exact BV.val hr _ (λ C=>by simp only[m6,hr.ev e1 (by intro e;cases e),IQ,oA,List.map_cons];rfl) h
 ·exact h.elim
theorem Alg (hr:RX σ tm M st) {v:AV} {K:List (List AV)->Prop} (h:qV M v K):v ≠ .any /\ ∃ es,ET st.own (BI σ v)=some es/\K es:=by
 cases v with
 | sl q es=>exact ⟨(by intro e;cases e),_,rfl,h⟩
 | nil=>exact ⟨(by intro e;cases e),_,rfl,h⟩
 | ib v =>
  cases v with
  | bool b=>exact ⟨(by intro e;cases e),_,rfl,h⟩
  | _=>exact (h:False).elim
 | row key t z off len =>
  simp only[qV]at h;obtain ⟨z',es,g,h⟩:=ApF hr h;cases hz:Nat.beq z z'<;>simp only[hz,cond_true,cond_false]at h;obtain rfl:=BN.1 hz;refine ⟨(by intro e;cases e),_,?_,h.2⟩;simp only[DI,ET,AH.get,g];rw[if_pos ⟨h.1,trivial⟩]
 | _=>exact (h:False).elim
theorem zR (hr:RX σ tm M st) {o:Option AP} {K:Option Int->Prop} (h:rU tm o K):(o=none/\K none) \/ ∃ x k n,o=some x/\st.ev x = .int k n/\K (some n):=by
 unfold rU at h;split at h
 ·exact Or.inl ⟨rfl,h⟩
 ·split at h
  ·rename_i e
   exact Or.inr ⟨_,_,_,rfl,hr.ev e (by intro e;cases e),h⟩
  ·exact h.elim
theorem Ais {z:Nat} {x:AP} {lo hi:Option AP} (hr:RX σ tm M st) (h:XE L tm M g9 K (.ke z x lo hi)):BV L tm g9 K (.ke z x lo hi) st:=by
 simp only[XE]at h;have go : ∀ (a b:Option Int),(match ex tm x with
   | .sl l es=>CE z es a b λ es=>K (.sl l es) M
   | .row key t z' off len=>bif Nat.beq z' z then BO a b len λ a h=>K (.row key t z (off+a) (h-a)) M else False
   | .nil=>(match a,b with
    | none,none=>K .nil M
    | some a,none=>AM (a=0) (K .nil M)
    | none,some h=>AM (h=0) (K .nil M)
    | some a,some h=>AM (a=0/\h=0) (K .nil M))
   | _=>False)->(lo=none/\a=none \/ ∃ y k n,lo=some y/\st.ev y = .int k n/\a=some n)->(hi=none/\b=none \/ ∃ y k n,hi=some y/\st.ev y = .int k n/\b=some n)->BV L tm g9 K (.ke z x lo hi) st:=by
  intro a b h ha hb;split at h
  ·rename_i q es e
   obtain ⟨g1,a',h',g2,g3,g4,h⟩:=h;refine BV.val hr _ (λ C => ?_) h;rcases ha with ⟨rfl,rfl⟩|⟨y,k,n,rfl,e1,rfl⟩<;>rcases hb with ⟨rfl,rfl⟩|⟨y',k',n',rfl,e2,rfl⟩<;>try simp only at g2 g3<;>simp only[m6,hr.ev e (by intro e;cases e),JI, *]<;>simp_all
  ·rename_i key t z' off len e
   cases hz:Nat.beq z' z<;>simp only[hz,cond_true,cond_false]at h;obtain rfl:=BN.1 hz;obtain ⟨a',h',g2,g3,g4,h⟩:=h;refine BV.val hr _ (λ C => ?_) h;rcases ha with ⟨rfl,rfl⟩|⟨y,k,n,rfl,e1,rfl⟩<;>rcases hb with ⟨rfl,rfl⟩|⟨y',k',n',rfl,e2,rfl⟩<;>try simp only at g2 g3<;>simp only[m6,hr.ev e (by intro e;cases e),DI, *]<;>simp_all
  ·rename_i e
   rcases ha with ⟨rfl,rfl⟩|⟨y,k,n,rfl,e1,rfl⟩<;>rcases hb with ⟨rfl,rfl⟩|⟨y',k',n',rfl,e2,rfl⟩<;>simp only at h
   ·exact BV.val hr .nil (λ C=>by simp only[m6,hr.ev e (by intro e;cases e),FM]) h
   ·exact BV.val hr .nil (λ C=>by simp only[m6,hr.ev e (by intro e;cases e),FM,e2,h.1,if_true]) h.2
   ·exact BV.val hr .nil (λ C=>by simp only[m6,hr.ev e (by intro e;cases e),FM,e1,h.1,if_true]) h.2
   ·exact BV.val hr .nil (λ C=>by simp only[m6,hr.ev e (by intro e;cases e),FM,e1,e2,h.1.1,h.1.2,if_true]) h.2
  ·exact h.elim
 rcases zR hr h with ⟨h1,h⟩|⟨y,k,n,h1,h2,h⟩
 ·rcases zR hr h with ⟨g1,h⟩|⟨y,k,n,g1,g2,h⟩
  ·exact go _ _ h (Or.inl ⟨h1,rfl⟩) (Or.inl ⟨g1,rfl⟩)
  ·exact go _ _ h (Or.inl ⟨h1,rfl⟩) (Or.inr ⟨_,_,_,g1,g2,rfl⟩)
 ·rcases zR hr h with ⟨g1,h⟩|⟨y',k',n',g1,g2,h⟩
  ·exact go _ _ h (Or.inr ⟨_,_,_,h1,h2,rfl⟩) (Or.inl ⟨g1,rfl⟩)
  ·exact go _ _ h (Or.inr ⟨_,_,_,h1,h2,rfl⟩) (Or.inr ⟨_,_,_,g1,g2,rfl⟩)
theorem sQ {s key:Nat} : ∀ {M:Mem},G5 s M=false->G5 s (ax key M)=false
 | [],_=>rfl
 | (i,s0,c0)::r,h=>by
  simp only[G5]at h;cases q0:Nat.beq s i<;>simp only[q0,cond_true,cond_false]at h
  ·cases q1:HO s c0<;>simp only[q1,cond_true,cond_false]at h
   ·simp only[ax]
    cases Nat.beq key i
    ·simp only[cond_false,G5,q0,q1,sQ h]
    ·simp only[cond_true,sQ h]
   ·cases h
  ·cases h
theorem AhJ {s z bytes:Nat} {x y:AP} (hr:RX σ tm M st) (h:qV M (ex tm y) λ ys=>match ex tm x with
   | .row key 0 z' off len=>bif Nat.beq off 0 then bif Nat.beq z' z then (match l6 M key with
    | some (s',.rw mg es)=>bif Nat.beq mg z then fM (ax key M) λ M'=>(BT es len ys z bytes λ es' n=>GG s tm M λ k=>K (.row k 0 z 0 n) ((k,s',.rw z es')::M')) else False
    | _=>False) else False else False
   | .row key (i+1) z' off len=>bif Nat.beq off 0 then bif Nat.beq z' z then (match l6 M key with
    | some (sk,.mx rows)=>fM (ax key M) λ M'=>BK rows i λ mg es=>bif Nat.beq mg z then (BT es len ys z bytes λ es' n => ∀ s' v,GG s tm M λ k=>K (.row k 0 z 0 n) ((k,s',.rw z es')::(key,sk,.hx i v (rows.set i none))::M')) else False
    | _=>False) else False else False
   | .nil=>bif E3 s then CD ys z bytes λ es n=>GG s tm M λ k=>K (.row k 0 z 0 n) ((k,s,.rw z es)::M) else False
   | _=>False):BV L tm g9 K (.app s z bytes x y) st:=by
 obtain ⟨h0,ys,hy,h⟩:=Alg hr h;have Dq:ET st.own (st.ev y)=some ys:=by rw[hr.ev rfl h0];exact hy
 split at h
 ·rename_i key z' off len e
  cases ho:Nat.beq off 0<;>simp only[ho,cond_true,cond_false]at h;cases hz:Nat.beq z' z<;>simp only[hz,cond_true,cond_false]at h;obtain rfl:=BN.1 ho;obtain rfl:=BN.1 hz;split at h
  ·rename_i s' mg es hm
   cases wg:Nat.beq mg z'<;>simp only[wg,cond_true,cond_false]at h;obtain rfl:=BN.1 wg;rw[XP]at h;obtain ⟨g1,g2,g3,g4,h⟩:=h;obtain ⟨k,h1,h2,h3⟩:=H4 h;have hs:=hr.sat.site _ _ _ hm;have ek:=hr.sat.m5 _ _ _ (EM hm);have hn:=(hr.kill hm).kb (s:=k) (q:=s') (sQ h1) h2 (.rw mg (es.take len++ys)) trivial rfl (λ_=>by have:=hr.sat.low _ _ _ (EM hm) rfl;rwa [hs]at this);have Ea:(st.own.put s' ((st.own s').bg (σ key 0).2 none)).n6 s'=st.own.n6 s':=by simp [AH.n6,AH.o4,CH.bg]
   simp only[AH.o4,AH.px,Ea]at hn;refine ⟨.jc (.row s' (st.own.n6 s') mg 0 (len+ys.length)) (st.own.put s' (((st.own s').bg (σ key 0).2 none).new ⟨mg,es.take len++ys⟩)),_,_,_,λ C => ?_,h3,?_,hn⟩
   ·rw[hs]at ek
    simp only[m6,Dq,hr.ev e (by intro e;cases e),DI,AH.get,hs,ek,A9.m5];rw[if_pos g2,if_pos ⟨trivial,trivial,g1,g3,g4⟩]
   ·simp only[CG.res,DI,BU]
  ·exact h.elim
 ·rename_i key i z' off len e
  cases ho:Nat.beq off 0<;>simp only[ho,cond_true,cond_false]at h;cases hz:Nat.beq z' z<;>simp only[hz,cond_true,cond_false]at h;obtain rfl:=BN.1 ho;obtain rfl:=BN.1 hz;split at h
  ·rename_i sk rows hm
   rw[XP]at h;obtain ⟨mg,es,g0,h⟩:=h;cases wg:Nat.beq mg z'<;>simp only[wg,cond_true,cond_false]at h;obtain rfl:=BN.1 wg;obtain ⟨g1,g2,g3,g4,h⟩:=h;have h:=h (σ key (i+1)).1 (.row (σ key (i+1)).1 (σ key (i+1)).2 mg 0 es.length);obtain ⟨k,h1,h2,h3⟩:=H4 h;have ek:=hr.sat.m5 key (i+1) (.rw mg es) (by simp [g8,hm,g0]);have hn:=hr.Ow (s:=k) (es':=es.take len++ys) hm g0 h1 h2;refine ⟨.jc (.row (σ key (i+1)).1 (st.own.n6 (σ key (i+1)).1) mg 0 (len+ys.length)) (st.own.put (σ key (i+1)).1 (((st.own (σ key (i+1)).1).bg (σ key (i+1)).2 none).new ⟨mg,es.take len++ys⟩)),_,_,_,λ C => ?_,h3,?_,hn⟩
   ·simp only[m6,Dq,hr.ev e (by intro e;cases e),DI,AH.get,ek,A9.m5]
    rw[if_pos g2,if_pos ⟨trivial,trivial,g1,g3,g4⟩]
   ·simp only[CG.res,DI,BU]
  ·exact h.elim
 ·rename_i e
  cases km:E3 s<;>simp only[km,cond_true,cond_false]at h;obtain ⟨g2,g3,g4,h⟩:=h;obtain ⟨k,h1,h2,h3⟩:=H4 h;refine ⟨.jc (.row s (st.own.n6 s) z 0 ys.length) (st.own.put s ((st.own s).new ⟨z,ys⟩)),_,_,_,λ C => ?_,h3,?_,hr.kb h1 h2 (.rw z ys) trivial rfl (λ_=>km)⟩
  ·simp only[m6,Dq,hr.ev e (by intro e;cases e),FM]
   rw[if_pos g2,if_pos ⟨g3,g4⟩]
  ·simp only[CG.res,DI,BU]
 ·exact h.elim
theorem AiF {v:AV} {ky k2 z n:Nat} (h:gE M v=some (ky,some (k2,z,n))):v = .row ky 0 1 0 1 /\ ∃ sy,l6 M ky=some (sy,.bs 1 [[.row k2 0 z 0 n]]):=by
 unfold gE at h;split at h
 ·split at h
  ·rename_i hm
   simp only[Option.some.injEq,Prod.mk.injEq]at h;obtain ⟨rfl,rfl,rfl,rfl⟩:=h;exact ⟨rfl,_,hm⟩
  ·simp at h
  ·cases h
 ·cases h
theorem AiE {v:AV} {ky:Nat} (h:gE M v=some (ky,none)):v = .row ky 0 1 0 1 /\ ∃ sy,l6 M ky=some (sy,.rw 1 [[.nil]]):=by
 unfold gE at h;split at h
 ·split at h
  ·simp at h
  ·rename_i hm
   simp only[Option.some.injEq,Prod.mk.injEq,and_true]at h;subst h;exact ⟨rfl,_,hm⟩
  ·cases h
 ·cases h
theorem Aej {z:Nat} : ∀ {es:List (List AV)},nD z es=true -> ∀ e∈es,e.length=z
 | [],_,e,he=>by cases he
 | a::r,h,e,he=>by
  simp only[nD]at h;cases h1:Nat.beq a.length z<;>simp only[h1,cond_true,cond_false]at h
  ·cases h
  ·rcases List.mem_cons.1 he with rfl|he
   ·exact BN.1 h1
   ·exact Aej h e he
theorem Afr {k:Nat} {b:List (List AV)} (r2:OU k b=false) : ∀ {a:List (List AV)},OU k a=false->OU k (a++b)=false
 | [],_=>r2
 | c::a,h=>by
  simp only[OU,List.cons_append]at h ⊢;cases hq:JC k c<;>simp only[hq,cond_true,cond_false]at h ⊢
  ·exact Afr r2 h
  ·cases h
theorem AhK {s z bytes:Nat} {x y:AP} (hr:RX σ tm M st) (h:uP tm M s z bytes x y K):BV L tm g9 K (.app s z bytes x y) st:=by
 unfold uP at h;split at h
 ·rename_i ky zy ny ey
  split at h
  ·rename_i sy z2 od vp
   cases a1:Nat.beq zy z<;>simp only[a1,cond_true,cond_false]at h;cases a2:Nat.beq z2 z<;>simp only[a2,cond_true,cond_false]at h;cases a3:Nat.beq ny od.length<;>simp only[a3,cond_true,cond_false]at h;cases a4:nD z od<;>simp only[a4,cond_true,cond_false]at h;have b1:=BN.1 a1;have b2:=BN.1 a2;have b3:=BN.1 a3;subst b1 b2 b3;have nx:=hr.sat.site _ _ _ vp;have rz:=hr.sat.m5 _ _ _ (EM vp);rw[nx]at rz
   have Ds:ET st.own (st.ev y)=some (od.map λ cs=>cs.map (BA σ)):=by
    rw[hr.ev ey (by intro e;cases e)];simp only[DI,ET,AH.get,nx,rz,A9.m5];rw[if_pos (by simp),List.drop_zero,List.take_of_length_le (by simp)]
   have dh : ∀ e∈od.map (λ cs=>cs.map (BA σ)),e.length=z2:=λ e he=>by
    obtain ⟨c,hc,rfl⟩:=List.mem_map.1 he;rw[List.length_map];exact Aej a4 c hc
   split at h
   ·rename_i e
    cases km:E3 s<;>simp only[km,cond_true,cond_false]at h;obtain ⟨⟨g3,g4⟩,h⟩:=yY h;obtain ⟨k,h1,h2,h3⟩:=H4 h;have Aq:HO k (.bs z2 od)=false:=(bY h1 _ _ _ vp).2;refine ⟨.jc (.row s (st.own.n6 s) z2 0 od.length) (st.own.put s ((st.own s).new ⟨z2,od.map λ cs=>cs.map (BA σ)⟩)),_,_,_,λ C => ?_,h3,?_,hr.kb h1 h2 (.bs z2 od) trivial Aq (λ_=>km)⟩
    ·simp only[m6,Ds,hr.ev e (by intro e;cases e),FM]
     rw[if_pos dh,if_pos ⟨by simpa [DX] using g3,by simpa using g4⟩,List.length_map]
    ·simp only[CG.res,DI,BU]
   ·rename_i kx zx len e
    cases c1:Nat.beq zx z2<;>simp only[c1,cond_true,cond_false]at h;split at h
    ·rename_i s' z1 Ae hm
     cases c2:Nat.beq z1 z2<;>simp only[c2,cond_true,cond_false]at h;cases c3:Nat.beq len Ae.length<;>simp only[c3,cond_true,cond_false]at h;have d1:=BN.1 c1;have d2:=BN.1 c2;have d3:=BN.1 c3;subst d1 d3;rw[XP]at h;obtain ⟨⟨g3,g4⟩,h⟩:=yY h;obtain ⟨k,h1,h2,h3⟩:=H4 h;have hs:=hr.sat.site _ _ _ hm;have ek:=hr.sat.m5 _ _ _ (EM hm);have r1:OU k Ae=false:=(bY h1 _ _ _ hm).2;have r2:OU k od=false:=(bY h1 _ _ _ vp).2;have Aq:HO k (.bs zx (Ae++od))=false:=by
      exact Afr r2 r1
     have hn:=(hr.kill hm).kb (s:=k) (q:=s') (sQ h1) h2 (.bs zx (Ae++od)) trivial Aq (λ_=>by have:=hr.sat.low _ _ _ (EM hm) rfl;rwa [hs]at this);have Ea:(st.own.put s' ((st.own s').bg (σ kx 0).2 none)).n6 s'=st.own.n6 s':=by simp [AH.n6,AH.o4,CH.bg]
     simp only[AH.o4,AH.px,Ea,A9.m5,List.map_append]at hn;rw[hs]at ek;refine ⟨.jc (.row s' (st.own.n6 s') zx 0 (Ae.length+od.length)) (st.own.put s' (((st.own s').bg (σ kx 0).2 none).new ⟨zx,Ae.map (λ cs=>cs.map (BA σ))++od.map λ cs=>cs.map (BA σ)⟩)),_,_,_,λ C => ?_,h3,?_,hn⟩
     ·simp only[m6,Ds,hr.ev e (by intro e;cases e),DI,AH.get,hs,ek,A9.m5]
      rw[if_pos dh,if_pos ⟨d2,trivial,by simp,by simpa [DX] using g3,by simpa using g4⟩,List.take_of_length_le (by simp),List.length_map]
     ·simp only[CG.res,DI,BU,List.length_append]
    ·exact h.elim
   ·exact h.elim
  ·exact h.elim
 ·exact h.elim
theorem AhI {s z bytes:Nat} {x y:AP} (hr:RX σ tm M st) (h:XE L tm M g9 K (.app s z bytes x y)):BV L tm g9 K (.app s z bytes x y) st:=by
 simp only[XE]at h;cases hV:Nat.ble 800000 s<;>simp only[hV,cond_true,cond_false]at h;rotate_left
 ·exact AhK hr h
 split at h
 ·rename_i ky k2 z2 n2 Bh
  obtain ⟨ui,sy,vp⟩:=AiF Bh;have nx:=hr.sat.site _ _ _ vp;have rz:=hr.sat.m5 _ _ _ (EM vp);rw[nx]at rz
  have Ds:ET st.own (st.ev y)=some [[.row (σ k2 0).1 (σ k2 0).2 z2 0 n2]]:=by
   rw[hr.ev ui (by intro e;cases e)];simp only[DI,ET,AH.get,nx,rz,A9.m5,BA,List.map_cons,List.map_nil,List.length_cons,List.length_nil];simp
  split at h
  ·rename_i key z' off len e
   cases ho:Nat.beq off 0<;>simp only[ho,cond_true,cond_false]at h;cases hz:Nat.beq z' 1<;>simp only[hz,cond_true,cond_false]at h;cases mq:Nat.beq z 1<;>simp only[mq,cond_true,cond_false]at h;cases re:Nat.beq key k2<;>simp only[re,cond_true,cond_false]at h;cases Ru:Nat.beq key ky<;>simp only[Ru,cond_true,cond_false]at h;cases hk3:Nat.beq k2 ky<;>simp only[hk3,cond_true,cond_false]at h;obtain rfl:=BN.1 ho;obtain rfl:=BN.1 hz;obtain rfl:=BN.1 mq;split at h
   ·rename_i s2 z3 es np
    cases Kh:Nat.beq z2 z3<;>simp only[Kh,cond_true,cond_false]at h;obtain rfl:=BN.1 Kh;split at h
    ·rename_i s' rows hm
     rw[XP]at h;obtain ⟨rfl,rfl,g3,g4,h⟩:=h;obtain ⟨k,h1,h2,h3⟩:=H4 h;have hs:=hr.sat.site _ _ _ hm;have ek:=hr.sat.m5 _ _ _ (EM hm);rw[hs]at ek;refine ⟨.jc (.row s' (st.own.n6 s') 1 0 (rows.length+1)) (st.own.put s' (((st.own s').bg (σ key 0).2 none).new ⟨1,B9 σ key 0 rows++[[.row (σ k2 0).1 (σ k2 0).2 z2 0 es.length]]⟩)),_,_,_,λ C => ?_,h3,?_,hr.Ox (ky:=ky) hm np (FR.1 re) h1 h2⟩
     ·simp only[m6,Ds,hr.ev e (by intro e;cases e),DI,AH.get,hs,ek,A9.m5]
      rw[if_pos (by simp),if_pos ⟨trivial,trivial,by rw[FE];exact Nat.le_refl _,by simpa using g3,by simpa using g4⟩];rw[List.take_of_length_le (by rw[FE];exact Nat.le_refl _)];rfl
     ·simp only[CG.res,DI,BU]
    ·exact h.elim
   ·exact h.elim
  ·rename_i e
   cases km:E3 s<;>simp only[km,cond_true,cond_false]at h;cases mq:Nat.beq z 1<;>simp only[mq,cond_true,cond_false]at h;obtain rfl:=BN.1 mq;split at h
   ·rename_i s2 z3 es np
    cases Kh:Nat.beq z2 z3<;>simp only[Kh,cond_true,cond_false]at h;obtain rfl:=BN.1 Kh;rw[XP]at h;obtain ⟨⟨rfl,g3⟩,h⟩:=h;obtain ⟨k,h1,h2,h3⟩:=H4 h;obtain ⟨σ',q1,q2⟩:=hr.Uk (q:=s) np (λ e=>(bY h1 _ _ _ np).1 e.symm) h1 h2 km;refine ⟨.jc (.row s (st.own.n6 s) 1 0 1) (st.own.put s ((st.own s).new ⟨1,[[.row (σ k2 0).1 (σ k2 0).2 z2 0 es.length]]⟩)),σ',_,_,λ C => ?_,h3,?_,q2⟩
    ·simp only[m6,Ds,hr.ev e (by intro e;cases e),FM]
     rw[if_pos (by simp),if_pos ⟨by simpa [DX] using g3,by simp⟩];rfl
    ·simp only[CG.res,DI,q1]
   ·exact h.elim
  ·exact h.elim
 ·rename_i ky Bh
  obtain ⟨ui,sy,vp⟩:=AiE Bh;have nx:=hr.sat.site _ _ _ vp;have rz:=hr.sat.m5 _ _ _ (EM vp);rw[nx]at rz
  have Ds:ET st.own (st.ev y)=some [[.nil]]:=by
   rw[hr.ev ui (by intro e;cases e)];simp only[DI,ET,AH.get,nx,rz,A9.m5,List.length_cons,List.length_nil];simp
  split at h
  ·rename_i key z' off len e
   cases ho:Nat.beq off 0<;>simp only[ho,cond_true,cond_false]at h;cases hz:Nat.beq z' 1<;>simp only[hz,cond_true,cond_false]at h;cases mq:Nat.beq z 1<;>simp only[mq,cond_true,cond_false]at h;cases Ru:Nat.beq key ky<;>simp only[Ru,cond_true,cond_false]at h;obtain rfl:=BN.1 ho;obtain rfl:=BN.1 hz;obtain rfl:=BN.1 mq;split at h
   ·rename_i s' rows hm
    rw[XP]at h;obtain ⟨rfl,g3,g4,h⟩:=h;obtain ⟨k,h1,h2,h3⟩:=H4 h;have hs:=hr.sat.site _ _ _ hm;have ek:=hr.sat.m5 _ _ _ (EM hm);rw[hs]at ek;refine ⟨.jc (.row s' (st.own.n6 s') 1 0 (rows.length+1)) (st.own.put s' (((st.own s').bg (σ key 0).2 none).new ⟨1,B9 σ key 0 rows++[[.nil]]⟩)),_,_,_,λ C => ?_,h3,?_,hr.Oz hm h1 h2⟩
    ·simp only[m6,Ds,hr.ev e (by intro e;cases e),DI,AH.get,hs,ek,A9.m5]
     rw[if_pos (by simp),if_pos ⟨trivial,trivial,by rw[FE];exact Nat.le_refl _,by simpa using g3,by simpa using g4⟩];rw[List.take_of_length_le (by rw[FE];exact Nat.le_refl _)];rfl
    ·simp only[CG.res,DI,BU]
   ·exact h.elim
  ·rename_i e
   cases km:E3 s<;>simp only[km,cond_true,cond_false]at h;cases mq:Nat.beq z 1<;>simp only[mq,cond_true,cond_false]at h;obtain rfl:=BN.1 mq;obtain ⟨g3,h⟩:=h;obtain ⟨k,h1,h2,h3⟩:=H4 h;have ik:A9.flat (.mx [none]):=by
    intro i x hx;cases i with
    | zero=>simp at hx
    | succ i=>simp at hx
   refine ⟨.jc (.row s (st.own.n6 s) 1 0 1) (st.own.put s ((st.own s).new ⟨1,[[.nil]]⟩)),_,_,_,λ C => ?_,h3,?_,hr.kb h1 h2 (.mx [none]) ik rfl (λ_=>km)⟩
   ·simp only[m6,Ds,hr.ev e (by intro e;cases e),FM]
    rw[if_pos (by simp),if_pos ⟨by simpa [DX] using g3,by simp⟩];rfl
   ·simp only[CG.res,DI,BU]
  ·exact h.elim
 ·exact AhJ hr h
