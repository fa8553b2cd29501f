/-
  The walk by computation is sound.
-/
import Derived.Test.YtfnglkabkfmjcaaGreatB5
set_option linter.unusedSimpArgs false
set_option linter.unusedVariables false
set_option linter.unnecessarySimpa false
namespace Go.c5
theorem BK {a b:Nat}:Nat.beq a b=true↔a=b:=⟨Nat.eq_of_beq_eq_true,λ h=>by subst h;simp⟩
theorem FD {a b:Nat}:Nat.beq a b=false↔a≠b:=by
 constructor
 ·exact Nat.ne_of_beq_eq_false
 ·intro h
  cases e:Nat.beq a b
  ·rfl
  ·exact absurd (Nat.eq_of_beq_eq_true e) h
theorem JL (j:Nat) : ∀ tm:Tm,tg tm j=g6 tm j
 | []=>rfl
 | (i,v)::r=>by
  simp only[tg,WS,JL j r];cases e:Nat.beq j i
  ·rw[if_neg (FD.1 e)];rfl
  ·rw[if_pos (BK.1 e)];rfl
theorem GJ : ∀ (l:List AV) (K:List AV->Prop),fL l K=K l
 | [],_=>rfl
 | v::r,K=>by rw[fL,GJ r]
theorem TI : ∀ (l:Tm) (K:Tm->Prop),fT l K=K l
 | [],_=>rfl
 | (i,v)::r,K=>by rw[fT,TI r]
theorem I8 : ∀ (l:Mem) (K:Mem->Prop),fM l K=K l
 | [],_=>rfl
 | (k,s,c)::r,K=>by rw[fM,I8 r]
theorem Ado (n:Nat) (K:Nat->Prop):fN n K=K n:=by cases n<;>rfl
theorem aQ (m i:Nat):bit m i=m.testBit i:=by
 have h:Nat.land (Nat.shiftRight m i) 1=(m >>> i)%2:=Nat.and_one_is_mod (m >>> i);have ht:m.testBit i=decide ((m >>> i)%2=1):=by
  rw[Nat.testBit,Nat.and_comm,Nat.and_one_is_mod];rcases Nat.mod_two_eq_zero_or_one (m >>> i) with e|e<;>simp [e]
 unfold bit;rw[h,ht];rcases Nat.mod_two_eq_zero_or_one (m >>> i) with e|e<;>rw[e]<;>rfl
theorem jQ (m i j:Nat):bit (Nat.lor m (Nat.shiftLeft 1 i)) j=(bit m j||decide (j=i)):=by
 rw[aQ,aQ];show (m ||| (1 <<< i)).testBit j=_;rw[Nat.testBit_or,Nat.testBit_shiftLeft];congr 1;by_cases h:j=i
 ·subst h;simp
 ·by_cases h2:j≥i
  ·obtain ⟨d,rfl⟩ : ∃ d,j=i+d+1:=⟨j-i-1,by omega⟩
   rw[show i+d+1-i=d+1 by omega,Nat.testBit_succ];simp [h]
  ·simp [h2,h]
theorem jP : ∀ (ts:List Nat) (m j:Nat),bit (mask m ts) j=(bit m j||ts.contains j)
 | [],m,j=>by simp [mask]
 | t::ts,m,j=>by
  rw[mask,jP ts,jQ,List.contains_cons,Bool.or_assoc];congr 2
theorem aR (j:Nat):bit 0 j=false:=by rw[aQ];simp
theorem WQ (j:Nat) : ∀ (tm:Tm) (m:Nat),tg (va m tm) j=bif bit m j then .any else tg tm j
 | [],m=>by cases bit m j<;>rfl
 | (i,v)::r,m=>by
  simp only[va];cases hb:bit m i
  ·simp only[cond_false,tg,WQ j r,jQ]
   cases hj:Nat.beq j i
   ·have:decide (j=i)=false:=by simpa using FD.1 hj
    simp only[cond_false,this,Bool.or_false]
   ·obtain rfl:=BK.1 hj
    simp only[cond_true,hb,cond_false]
  ·simp only[cond_true,tg,WQ j r]
   cases hj:Nat.beq j i
   ·rfl
   ·obtain rfl:=BK.1 hj
    simp only[hb,cond_true]
theorem YM {v:AV} {K:AV->Prop} (h:fV v K):v ≠ .any/\K v:=by
 cases v<;>simp only[fV,GJ]at h<;>first|exact h.elim|exact ⟨(by intro e;cases e),h⟩
theorem YL {v:AV} {K:List AV->Prop} (h:fC v K):v ≠ .any /\ ∃ cs,cellsOf v=some cs/\K cs:=by
 cases v<;>simp only[fC,fV,GJ]at h<;>first|exact h.elim|exact ⟨(by intro e;cases e),_,rfl,h⟩
theorem PI (b:Bool) (K:Bool->Prop):fB b K=K b:=by cases b<;>rfl
theorem uT {k:Nat} {tm:Tm} {M:Mem} (h:used k tm M=false):GO k M=false/\HR k tm=false:=by
 unfold used at h;cases h1:GO k M<;>simp only[h1,cond_true,cond_false]at h
 ·exact ⟨rfl,h⟩
 ·cases h
theorem rO {tm:Tm} {M:Mem} {K:Nat->Prop} : ∀ {l:List Nat},Y7 tm M l K -> ∃ k,GO k M=false/\HR k tm=false/\K k
 | [],h=>h.elim
 | k::r,h=>by
  simp only[Y7]at h;cases h0:used k tm M<;>simp only[h0,cond_true,cond_false]at h
  ·exact ⟨k,(uT h0).1,(uT h0).2,h⟩
  ·exact rO h
theorem GH {s:Nat} {tm:Tm} {M:Mem} {K:Nat->Prop} (h:FG s tm M K) : ∃ k,GO k M=false/\HR k tm=false/\K k:=rO h
section
variable {σ:FH}
def C4 (σ:FH) (k:Nat) (f:Nat->Nat × Nat):FH:=λ j t=>if j=k then f t else σ j t
theorem CU {k j:Nat} (f:Nat->Nat × Nat) (h:j≠k):C4 σ k f j=σ j:=by funext t;simp [C4,h]
theorem BX (k:Nat) (f:Nat->Nat × Nat):C4 σ k f k=f:=by funext t;simp [C4]
theorem gX {k:Nat} {p:Nat->Nat × Nat} {v:AV} (h:NX k v=false):BA (C4 σ k p) v=BA σ v:=by
 cases v with
 | row j t z o n=>simp only[NX]at h;simp only[BA,CU p (FD.1 h)]
 | ptr j t a b=>simp only[NX]at h;simp only[BA,CU p (FD.1 h)]
 | _=>rfl
theorem T7 {k:Nat} {p:Nat->Nat × Nat} : ∀ {cs:List AV},HQ k cs=false->cs.map (BA (C4 σ k p))=cs.map (BA σ)
 | [],_=>rfl
 | c::r,h=>by
  simp only[HQ]at h;cases h1:NX k c<;>simp only[h1,cond_true,cond_false]at h
  ·rw[List.map_cons,List.map_cons,gX h1,T7 h]
  ·cases h
theorem gV {k:Nat} {p:Nat->Nat × Nat} : ∀ {es:List (List AV)},IR k es=false->(es.map λ cs=>cs.map (BA (C4 σ k p)))=es.map λ cs=>cs.map (BA σ)
 | [],_=>rfl
 | c::r,h=>by
  simp only[IR]at h;cases h1:HQ k c<;>simp only[h1,cond_true,cond_false]at h
  ·rw[List.map_cons,List.map_cons,T7 h1,gV h]
  ·cases h
theorem WO {k:Nat} {p:Nat->Nat × Nat} {v:AV} (h:PT k v=false):BV (C4 σ k p) v=BV σ v:=by
 cases v with
 | agg cs=>simp only[PT]at h;simp only[BV,T7 h]
 | fn p f g cs=>simp only[PT]at h;simp only[BV,T7 h]
 | row a b c d e=>exact gX (v := .row a b c d e) h
 | ptr a b c d=>exact gX (v := .ptr a b c d) h
 | _=>rfl
theorem uA {k:Nat} {p:Nat->Nat × Nat} : ∀ {cs:List AV},T4 k cs=false->cs.map (BV (C4 σ k p))=cs.map (BV σ)
 | [],_=>rfl
 | c::r,h=>by
  simp only[T4]at h;cases h1:PT k c<;>simp only[h1,cond_true,cond_false]at h
  ·rw[List.map_cons,List.map_cons,WO h1,uA h]
  ·cases h
theorem ZX {k:Nat} {p:Nat->Nat × Nat} {v:AV} (h:NY k v=false):BH (C4 σ k p) v=BH σ v:=by
 cases v with
 | g7 cs=>simp only[NY]at h;simp only[BH,uA h]
 | agg cs=>exact WO (v := .agg cs) h
 | fn p f g cs=>exact WO (v := .fn p f g cs) h
 | row a b c d e=>exact WO (v := .row a b c d e) h
 | ptr a b c d=>exact WO (v := .ptr a b c d) h
 | _=>rfl
theorem T5 {k:Nat} : ∀ {tm:Tm},HR k tm=false -> ∀ j,NY k (tg tm j)=false
 | [],_,_=>rfl
 | (i,v)::r,h,j=>by
  simp only[HR]at h;cases h1:NY k v<;>simp only[h1,cond_true,cond_false]at h
  ·simp only[tg]
   cases Nat.beq j i
   ·exact T5 h j
   ·exact h1
  ·cases h
theorem OX {k:Nat} : ∀ {M:Mem},GO k M=false -> ∀ j s c,c6 M j=some (s,c)->j≠k/\G1 k c=false
 | [],_,_,_,_,e=>by cases e
 | (i,s0,c0)::r,h,j,s,c,e=>by
  simp only[GO]at h;cases h0:Nat.beq k i<;>simp only[h0,cond_true,cond_false]at h
  ·cases h1:G1 k c0<;>simp only[h1,cond_true,cond_false]at h
   ·simp only[c6]at e
    cases h2:Nat.beq j i<;>simp only[h2,cond_true,cond_false]at e
    ·exact OX h j s c e
    ·simp only[Option.some.injEq,Prod.mk.injEq]at e
     obtain ⟨_,rfl⟩:=e;exact ⟨λ e=>FD.1 h0 (e.symm.trans (BK.1 h2)),h1⟩
   ·cases h
  ·cases h
theorem QP {σ σ':FH} {k:Nat} : ∀ (rows:List (Option (Nat × List (List AV)))) (i:Nat),(∀ j,i<=j->σ k (j+1)=σ' k (j+1))->B5 σ k i rows=B5 σ' k i rows
 | [],i,h=>rfl
 | none::r,i,h=>by rw[B5,B5,QP r (i+1) λ j hj=>h j (by omega)]
 | some (z,es)::r,i,h=>by rw[B5,B5,QP r (i+1) λ j hj=>h j (by omega),h i (by omega)]
theorem E3 {k:Nat} : ∀ (rows:List (Option (Nat × List (List AV)))) (i j:Nat),(B5 σ k i rows)[j]? = (rows[j]?).map λ r=>match r with|none=>[.nil]|some (z,es)=>[.row (σ k (i+j+1)).1 (σ k (i+j+1)).2 z 0 es.length]
 | [],i,j=>by simp [B5]
 | none::r,i,0=>by simp [B5]
 | none::r,i,j+1=>by simp only[B5,List.getElem?_cons_succ,E3 r (i+1) j];rw[show i+1+j=i+(j+1) by omega]
 | some (z,es)::r,i,0=>by simp [B5]
 | some (z,es)::r,i,j+1=>by simp only[B5,List.getElem?_cons_succ,E3 r (i+1) j];rw[show i+1+j=i+(j+1) by omega]
theorem E4 {k:Nat} : ∀ (rows:List (Option (Nat × List (List AV)))) (i:Nat),(B5 σ k i rows).length=rows.length
 | [],i=>rfl
 | none::r,i=>by simp [B5,E4 r]
 | some (z,es)::r,i=>by simp [B5,E4 r]
theorem XT {k j:Nat} {f:Nat->Nat × Nat} {c:A7} (h:G1 k c=false) (hj:j≠k):c.e8 (C4 σ k f) j=c.e8 σ j:=by
 cases c with
 | bx cs=>simp only[G1]at h;simp only[A7.e8,T7 h]
 | rw z es=>rfl
 | bs z es=>simp only[G1]at h;simp only[A7.e8,gV h]
 | mx rows=>simp only[A7.e8];rw[QP rows 0 λ i _=>by rw[CU f hj]]
 | hx a v rows=>simp only[A7.e8];rw[QP rows 0 λ i _=>by rw[CU f hj]]
 | vw w rows=>simp only[A7.e8];rw[QP rows 0 λ i _=>by rw[CU f hj]]
theorem Sz {v:AV} (h:tc v=true):BA σ v=v:=by cases v<;>first|rfl|cases h
theorem H1 : ∀ {cs:List AV},D5 cs=true->cs.map (BA σ)=cs
 | [],_=>rfl
 | c::r,h=>by
  simp only[D5]at h;cases h1:tc c<;>simp only[h1,cond_true,cond_false]at h
  ·cases h
  ·rw[List.map_cons,Sz h1,H1 h]
theorem Sy {k:Nat} {v:AV} (h:tc v=true):NX k v=false:=by cases v<;>first|rfl|cases h
theorem bK {k:Nat} : ∀ {cs:List AV},D5 cs=true->HQ k cs=false
 | [],_=>rfl
 | c::r,h=>by
  simp only[D5]at h;cases h1:tc c<;>simp only[h1,cond_true,cond_false]at h
  ·cases h
  ·simp only[HQ,Sy h1,bK h,cond_false]
theorem Sr (v:AV):cv v = .any\/(cv v=v/\BH σ v=v):=by
 cases v with
 | agg cs =>
  simp only[cv];cases h:D5 cs
  ·exact Or.inl rfl
  ·exact Or.inr ⟨rfl,by simp only[BH,BV,H1 h]⟩
 | g7 vs=>cases vs with
  | nil=>exact Or.inr ⟨rfl,rfl⟩
  | cons=>exact Or.inl rfl
 | fn p f g cs=>cases cs with
  | nil=>exact Or.inr ⟨rfl,rfl⟩
  | cons=>exact Or.inl rfl
 | _=>first|exact Or.inl rfl|exact Or.inr ⟨rfl,rfl⟩
theorem Sn {k:Nat} (v:AV):NY k (cv v)=false:=by
 cases v with
 | agg cs =>
  simp only[cv];cases h:D5 cs
  ·rfl
  ·exact bK h
 | g7 vs=>cases vs<;>rfl
 | fn p f g cs=>cases cs<;>rfl
 | _=>rfl
variable {tm:Tm} {M:Mem} {st:St}
theorem RX.ev (h:RX σ tm M st) {x:AP} {v:AV} (e:ex tm x=v) (hv:v ≠ .any):st.ev x=BH σ v:=by
 cases x with
 | t n =>
  simp only[ex]at e;rcases h.tm n with h|h
  ·exact absurd (e.symm.trans h) hv
  ·rw[e]at h;exact h
 | c u =>
  simp only[ex]at e;rcases Sr (σ:=σ) u with h|⟨h,h'⟩
  ·exact absurd (e.symm.trans h) hv
  ·rw[<-e,h,h'];rfl
theorem oB {k:Nat} (h:HR k tm=false) (x:AP):NY k (ex tm x)=false:=by
 cases x with
 | t n=>exact T5 h n
 | c u=>exact Sn u
theorem sK {k:Nat} {v:AV} {cs:List AV} (h:NY k v=false) (e:cellsOf v=some cs):HQ k cs=false:=by
 cases v<;>simp only[cellsOf,Option.some.injEq,reduceCtorEq]at e<;>subst e<;>first|exact h|rfl|(simp only[NY,PT]at h;simp only[HQ,h,cond_false])
theorem OJ {v:AV} {cs:List AV} (e:cellsOf v=some cs):cellsOf (BH σ v)=some (cs.map (BA σ)):=by
 cases v<;>simp only[cellsOf,Option.some.injEq,reduceCtorEq]at e<;>subst e<;>rfl
def A7.flat:A7->Prop
 | .mx rows => ∀ (i:Nat) (x:Nat × List (List AV)),rows[i]? = some (some x)->False
 | .hx _ _ _=>False
 | .vw _ _=>False
 | _=>True
theorem DJ {M:Mem} {k s:Nat} {c:A7} (h:c6 M k=some (s,c)):b8 M k 0=some c:=by simp [b8,h]
theorem HD {M:Mem} {k t:Nat} {c:A7} (h:b8 M k t=some c) : ∃ s c0,c6 M k=some (s,c0)/\(t=0->c=c0)/\(∀ i,t=i+1 -> ∃ rows z es,((c0 = .mx rows \/ ∃ a v,c0 = .hx a v rows) \/ ∃ w,c0 = .vw w rows)/\rows[i]? = some (some (z,es))/\c = .rw z es):=by
 unfold b8 at h;cases hm:c6 M k with
 | none=>simp [hm]at h
 | some x =>
  obtain ⟨s,c0⟩:=x;simp only[hm]at h;refine ⟨s,c0,rfl,?_,?_⟩
  ·rintro rfl;exact (Option.some.inj h).symm
  ·rintro i rfl
   cases c0 with
   | mx rows =>
    simp only at h;cases hr:rows[i]? with
    | none=>simp [hr]at h
    | some r =>
     cases r with
     | none=>simp [hr]at h
     | some ze=>obtain ⟨z,es⟩:=ze;simp only[hr,Option.some.injEq]at h;exact ⟨rows,z,es,Or.inl (Or.inl rfl),hr,h.symm⟩
   | hx a v rows =>
    simp only at h;cases hr:rows[i]? with
    | none=>simp [hr]at h
    | some r =>
     cases r with
     | none=>simp [hr]at h
     | some ze=>obtain ⟨z,es⟩:=ze;simp only[hr,Option.some.injEq]at h;exact ⟨rows,z,es,Or.inl (Or.inr ⟨a,v,rfl⟩),hr,h.symm⟩
   | vw w rows =>
    simp only at h;cases hr:rows[i]? with
    | none=>simp [hr]at h
    | some r =>
     cases r with
     | none=>simp [hr]at h
     | some ze=>obtain ⟨z,es⟩:=ze;simp only[hr,Option.some.injEq]at h;exact ⟨rows,z,es,Or.inr ⟨w,rfl⟩,hr,h.symm⟩
   | _=>simp at h
theorem J5 {M:Mem} {k s:Nat} {c:A7} {j t:Nat} (h:j≠k):b8 ((k,s,c)::M) j t=b8 M j t:=by
 simp only[b8,c6,FD.2 h,cond_false]
theorem QN {M:Mem} {k s:Nat} {c:A7}:b8 ((k,s,c)::M) k 0=some c:=by simp [b8,c6]
theorem TT {M:Mem} {k s:Nat} {c:A7} (hc:c.flat) {t:Nat} {c':A7} (h:b8 ((k,s,c)::M) k t=some c'):t=0/\c'=c:=by
 cases t with
 | zero=>rw[QN]at h;exact ⟨rfl,(Option.some.inj h).symm⟩
 | succ i =>
  simp only[b8,c6,Nat.beq_refl,cond_true]at h;cases c with
  | mx rows =>
   simp only at h;split at h
   ·rename_i z es hr
    exact (hc i (z,es) hr).elim
   ·cases h
  | hx a v rows=>exact hc.elim
  | vw w rows=>exact hc.elim
  | _=>simp at h
theorem Afg {σ σ':FH} {k k':Nat} {rows:List (Option (Nat × List (List AV)))} (h:A7.flat (.mx rows)):B5 σ k 0 rows=B5 σ' k' 0 rows:=by
 apply List.ext_getElem?;intro j;rw[E3,E3];cases hr:rows[j]? with
 | none=>rfl
 | some r=>cases r with
  | none=>rfl
  | some x=>exact (h j x hr).elim
theorem RX.db (h:RX σ tm M st) {s q:Nat} (hm:GO s M=false) (ht:HR s tm=false) (c:A7) (hf:c.flat) (hc:G1 s c=false) (hl:c.mu=true->EN q=true) :
  RX (C4 σ s λ_=>(q,st.own.g9 q)) tm ((s,q,c)::M) ⟨st.tm,st.own.put q ((st.own q).new (c.e8 σ s))⟩:=by
 have Lq : ∀ j t c',b8 M j t=some c'->((st.own.put q ((st.own q).new (c.e8 σ s))) (σ j t).1).e8 (σ j t).2=(st.own (σ j t).1).e8 (σ j t).2:=by
  intro j t c' e;by_cases hs:(σ j t).1=q
  ·have ho:=h.sat.old _ _ _ e
   rw[hs]at ho ⊢;simp only[AH.j5,CD.new];rw[if_neg (by omega)]
  ·rw[AH.fx _ _ _ _ hs]
 have Ay : ∀ s',(st.own s').g9<=((st.own.put q ((st.own q).new (c.e8 σ s))) s').g9:=by
  intro s';by_cases hs:s'=q
  ·subst hs;simp only[AH.j5,CD.new];omega
  ·rw[AH.fx _ _ _ _ hs];exact Nat.le_refl _
 have k9 : ∀ j t c',j≠s->b8 ((s,q,c)::M) j t=some c'->b8 M j t=some c':=λ j t c' hj e=>by rwa [J5 hj]at e
 have Bm : ∀ j t c',b8 M j t=some c'->G1 s c'=false/\j≠s:=by
  intro j t c' e;obtain ⟨s1,c0,g1,g2,g3⟩:=HD e;obtain ⟨g4,g5⟩:=OX hm _ _ _ g1;refine ⟨?_,g4⟩;cases t with
  | zero=>rw[g2 rfl];exact g5
  | succ i=>obtain ⟨rows,z,es,_,_,rfl⟩:=g3 i rfl;rfl
 refine ⟨λ j => ?_,⟨?_,?_,?_,?_,?_⟩⟩
 ·rw[ZX (T5 ht j)];exact h.tm j
 ·intro j s' c' e
  simp only[c6]at e;cases hb:Nat.beq j s<;>simp only[hb,cond_true,cond_false]at e
  ·rw[CU _ (FD.1 hb)];exact h.sat.site _ _ _ e
  ·simp only[Option.some.injEq,Prod.mk.injEq]at e
   obtain ⟨rfl,rfl⟩:=e;rw[BK.1 hb,BX]
 ·intro j t c' e
  by_cases hj:j=s
  ·subst hj
   obtain ⟨rfl,rfl⟩:=TT hf e;have hb:c'.e8 (C4 σ j λ_=>(q,st.own.g9 q)) j=c'.e8 σ j:=by
    cases c' with
    | bx cs=>simp only[G1]at hc;simp only[A7.e8,T7 hc]
    | rw z es=>rfl
    | bs z es=>simp only[G1]at hc;simp only[A7.e8,gV hc]
    | mx rows=>exact congrArg (DT.mk 1) (Afg hf)
    | hx a v rows=>exact hf.elim
    | vw w rows=>exact hf.elim
   rw[BX,hb];simp [AH.j5,CD.new,AH.g9]
  ·have e':=k9 j t c' hj e
   rw[CU _ hj,XT (Bm j t c' e').1 hj];exact (Lq j t c' e').trans (h.sat.e8 _ _ _ e')
 ·intro j t c' e
  by_cases hj:j=s
  ·subst hj
   rw[BX];simp [AH.j5,CD.new,AH.g9]
  ·have e':=k9 j t c' hj e
   rw[CU _ hj];exact Nat.lt_of_lt_of_le (h.sat.old _ _ _ e') (Ay _)
 ·have ma : ∀ j t c',b8 M j t=some c'->σ j t=(q,st.own.g9 q)->False:=by
   intro j t c' e hh;have h2:=h.sat.old _ _ _ e;rw[hh]at h2;exact absurd h2 (Nat.lt_irrefl _)
  intro j t j' t' c1 c2 e1 e2 hj;by_cases h1:j=s<;>by_cases h2:j'=s
  ·subst h1;subst h2
   exact ⟨rfl,(TT hf e1).1.trans (TT hf e2).1.symm⟩
  ·subst h1
   rw[BX,CU _ h2]at hj;exact (ma _ _ _ (k9 _ _ _ h2 e2) hj.symm).elim
  ·subst h2
   rw[BX,CU _ h1]at hj;exact (ma _ _ _ (k9 _ _ _ h1 e1) hj).elim
  ·rw[CU _ h1,CU _ h2]at hj
   exact h.sat.inj _ _ _ _ _ _ (k9 _ _ _ h1 e1) (k9 _ _ _ h2 e2) hj
 ·intro j t c' e hw
  by_cases hj:j=s
  ·subst hj
   obtain ⟨rfl,rfl⟩:=TT hf e;rw[BX];exact hl hw
  ·rw[CU _ hj];exact h.sat.low _ _ _ (k9 j t c' hj e) hw
theorem OU {k j:Nat} {x:Nat × A7} : ∀ {M:Mem},c6 (n8 k M) j=some x->j≠k/\c6 M j=some x
 | [],e=>by cases e
 | (i,s,c)::r,e=>by
  simp only[n8]at e;cases hb:Nat.beq k i<;>simp only[hb,cond_true,cond_false]at e
  ·simp only[c6]at e ⊢
   cases hj:Nat.beq j i<;>simp only[hj,cond_true,cond_false]at e ⊢
   ·exact OU e
   ·exact ⟨λ e'=>FD.1 hb (e'.symm.trans (BK.1 hj)),e⟩
  ·obtain ⟨h1,h2⟩:=OU e
   refine ⟨h1,?_⟩;simp only[c6];rw[FD.2 (λ e'=>h1 (e'.trans (BK.1 hb).symm))];exact h2
theorem RY {own:AH} {p:Nat × Nat} {x:Option DT} {q:Nat × Nat} (h:q≠p):((own.put p.1 ((own p.1).n6 p.2 x)) q.1).e8 q.2=(own q.1).e8 q.2:=by
 by_cases hs:q.1=p.1
 ·rw[hs,AH.j5]
  simp only[CD.n6];rw[if_neg (λ e=>h (Prod.ext hs e))]
 ·rw[AH.fx _ _ _ _ hs]
theorem ZC {own:AH} {p:Nat × Nat} {x:Option DT}:((own.put p.1 ((own p.1).n6 p.2 x)) p.1).e8 p.2=x:=by simp [AH.j5,CD.n6]
theorem WA {own:AH} {p:Nat × Nat} {x:Option DT} (s:Nat):((own.put p.1 ((own p.1).n6 p.2 x)) s).g9=(own s).g9:=by
 by_cases hs:s=p.1
 ·subst hs;rw[AH.j5];rfl
 ·rw[AH.fx _ _ _ _ hs]
theorem RX.Ib (h:RX σ tm M st) {k s:Nat} {c:A7} (e:c6 M k=some (s,c)) (hf:c.flat) (c':A7) (me:c'.flat) (hir:c'.mu=true->c.mu=true) :
  RX σ tm ((k,s,c')::M) ⟨st.tm,st.own.put s ((st.own s).n6 (σ k 0).2 (some (c'.e8 σ k)))⟩:=by
 have hs:=h.sat.site _ _ _ e;subst hs;have e0:=DJ e;have hg : ∀ j t c1,b8 ((k,(σ k 0).1,c')::M) j t=some c1->(j=k/\t=0/\c1=c')\/(j≠k/\b8 M j t=some c1):=by
  intro j t c1 e1;by_cases hj:j=k
  ·subst hj
   obtain ⟨rfl,rfl⟩:=TT me e1;exact Or.inl ⟨rfl,rfl,rfl⟩
  ·rw[J5 hj]at e1
   exact Or.inr ⟨hj,e1⟩
 have pz : ∀ j t c1,b8 ((k,(σ k 0).1,c')::M) j t=some c1 -> ∃ c2,b8 M j t=some c2:=by
  intro j t c1 e1;rcases hg j t c1 e1 with ⟨rfl,rfl,rfl⟩|⟨_,h2⟩
  ·exact ⟨c,e0⟩
  ·exact ⟨c1,h2⟩
 refine ⟨h.tm,⟨?_,?_,?_,?_,?_⟩⟩
 ·intro j s' c1 e1
  simp only[c6]at e1;cases hb:Nat.beq j k<;>simp only[hb,cond_true,cond_false]at e1
  ·exact h.sat.site _ _ _ e1
  ·simp only[Option.some.injEq,Prod.mk.injEq]at e1
   rw[BK.1 hb];exact e1.1
 ·intro j t c1 e1
  rcases hg j t c1 e1 with ⟨rfl,rfl,rfl⟩|⟨h1,h2⟩
  ·exact ZC
  ·refine (RY (λ he => ?_)).trans (h.sat.e8 _ _ _ h2)
   exact h1 (h.sat.inj _ _ _ _ _ _ h2 e0 he).1
 ·intro j t c1 e1
  obtain ⟨c2,e2⟩:=pz _ _ _ e1;show (σ j t).2<((st.own.put (σ k 0).1 ((st.own (σ k 0).1).n6 (σ k 0).2 (some (c'.e8 σ k)))) (σ j t).1).g9;rw[WA];exact h.sat.old _ _ _ e2
 ·intro j t j' t' c1 c2 e1 e2 hj
  obtain ⟨_,Di⟩:=pz _ _ _ e1;obtain ⟨_,Ac⟩:=pz _ _ _ e2;exact h.sat.inj _ _ _ _ _ _ Di Ac hj
 ·intro j t c1 e1 hw
  rcases hg j t c1 e1 with ⟨rfl,rfl,rfl⟩|⟨_,h2⟩
  ·exact h.sat.low _ _ _ e0 (hir hw)
  ·exact h.sat.low _ _ _ h2 hw
theorem YW {k t:Nat} {c:A7} (h:b8 M k (t+1)=some c):c.mu=true:=by
 obtain ⟨_,_,_,_,g3⟩:=HD h;obtain ⟨_,_,_,_,_,rfl⟩:=g3 t rfl;rfl
theorem LC {k j t:Nat} {c:A7} (h:b8 (n8 k M) j t=some c):j≠k/\b8 M j t=some c:=by
 obtain ⟨s,c0,g1,_⟩:=HD h;obtain ⟨h1,h2⟩:=OU g1;refine ⟨h1,?_⟩;unfold b8 at h ⊢;rw[g1]at h;rw[h2];exact h
theorem RX.kill (h:RX σ tm M st) {k s:Nat} {c:A7} (e:c6 M k=some (s,c)) :
  RX σ tm (n8 k M) ⟨st.tm,st.own.put s ((st.own s).n6 (σ k 0).2 none)⟩:=by
 have hs:=h.sat.site _ _ _ e;subst hs;have e0:=DJ e;refine ⟨h.tm,⟨?_,?_,?_,?_,?_⟩⟩
 ·intro j s' c1 e1
  exact h.sat.site _ _ _ (OU e1).2
 ·intro j t c1 e1
  obtain ⟨hj,e1⟩:=LC e1;refine (RY (λ he => ?_)).trans (h.sat.e8 _ _ _ e1);exact hj (h.sat.inj _ _ _ _ _ _ e1 e0 he).1
 ·intro j t c1 e1
  obtain ⟨hj,e1⟩:=LC e1;show (σ j t).2<((st.own.put (σ k 0).1 ((st.own (σ k 0).1).n6 (σ k 0).2 none)) (σ j t).1).g9;rw[WA];exact h.sat.old _ _ _ e1
 ·intro j t j' t' c1 c2 e1 e2 hj
  exact h.sat.inj _ _ _ _ _ _ (LC e1).2 (LC e2).2 hj
 ·intro j t c1 e1 hw
  exact h.sat.low _ _ _ (LC e1).2 hw
theorem RX.Nj (h:RX σ tm M st) {k s i z:Nat} {rows:List (Option (Nat × List (List AV)))} {es es':List (List AV)} (e:c6 M k=some (s,.mx rows)) (hr:rows[i]? = some (some (z,es))) (hl:es'.length=es.length) :
  RX σ tm ((k,s,.mx (rows.set i (some (z,es'))))::M) ⟨st.tm,st.own.put (σ k (i+1)).1 ((st.own (σ k (i+1)).1).n6 (σ k (i+1)).2 (some ⟨z,es'⟩))⟩:=by
 have e1:b8 M k (i+1)=some (.rw z es):=by simp [b8,e,hr]
 have hi:i<rows.length:=(zS hr).1;have js:B5 σ k 0 (rows.set i (some (z,es')))=B5 σ k 0 rows:=by
  apply List.ext_getElem?;intro j;rw[E3,E3];by_cases hj:i=j
  ·subst hj;rw[List.getElem?_set_self hi,hr];simp [hl]
  ·rw[List.getElem?_set_ne hj]
 have hg : ∀ j t c1,b8 ((k,s,.mx (rows.set i (some (z,es'))))::M) j t=some c1->(j=k/\t=i+1/\c1 = .rw z es')\/(¬ (j=k/\t=i+1) /\ ∃ c2,b8 M j t=some c2/\c2.e8 σ j=c1.e8 σ j):=by
  intro j t c1 g;by_cases hj:j=k
  ·subst hj
   cases t with
   | zero =>
    rw[QN]at g;obtain rfl:=Option.some.inj g;exact Or.inr ⟨by omega,_,DJ e,by simp only[A7.e8,js]⟩
   | succ t =>
    simp only[b8,c6,Nat.beq_refl,cond_true]at g;by_cases se:i=t
    ·subst se
     rw[List.getElem?_set_self hi]at g;exact Or.inl ⟨rfl,rfl,(Option.some.inj g).symm⟩
    ·rw[List.getElem?_set_ne se]at g
     refine Or.inr ⟨by omega,c1,?_,rfl⟩;simp only[b8,e];exact g
  ·rw[J5 hj]at g
   exact Or.inr ⟨by omega,c1,g,rfl⟩
 have pz : ∀ j t c1,b8 ((k,s,.mx (rows.set i (some (z,es'))))::M) j t=some c1 -> ∃ c2,b8 M j t=some c2:=by
  intro j t c1 g;rcases hg j t c1 g with ⟨rfl,rfl,rfl⟩|⟨_,c2,h2,_⟩
  ·exact ⟨_,e1⟩
  ·exact ⟨c2,h2⟩
 refine ⟨h.tm,⟨?_,?_,?_,?_,?_⟩⟩
 ·intro j s' c1 g
  simp only[c6]at g;cases hb:Nat.beq j k<;>simp only[hb,cond_true,cond_false]at g
  ·exact h.sat.site _ _ _ g
  ·simp only[Option.some.injEq,Prod.mk.injEq]at g
   rw[BK.1 hb,<-g.1];exact h.sat.site _ _ _ e
 ·intro j t c1 g
  rcases hg j t c1 g with ⟨rfl,rfl,rfl⟩|⟨h1,c2,h2,h3⟩
  ·exact ZC
  ·rw[<-h3]
   refine (RY (λ he => ?_)).trans (h.sat.e8 _ _ _ h2);exact h1 (h.sat.inj _ _ _ _ _ _ h2 e1 he)
 ·intro j t c1 g
  obtain ⟨c2,e2⟩:=pz _ _ _ g;show (σ j t).2<((st.own.put (σ k (i+1)).1 ((st.own (σ k (i+1)).1).n6 (σ k (i+1)).2 (some ⟨z,es'⟩))) (σ j t).1).g9;rw[WA];exact h.sat.old _ _ _ e2
 ·intro j t j' t' c1 c2 g1 g2 hj
  obtain ⟨_,Di⟩:=pz _ _ _ g1;obtain ⟨_,Ac⟩:=pz _ _ _ g2;exact h.sat.inj _ _ _ _ _ _ Di Ac hj
 ·intro j t c1 g hw
  obtain ⟨c2,e2⟩:=pz _ _ _ g;cases t with
  | zero =>
   by_cases hj:j=k
   ·subst hj;exact h.sat.low _ _ _ (DJ e) rfl
   ·rw[J5 hj]at g;exact h.sat.low _ _ _ g hw
  | succ t=>exact h.sat.low _ _ _ e2 (YW e2)
section
variable {k:Nat} {f:Nat->Nat × Nat}
theorem gW {v:AV} (hf:f 0=σ k 0) (h:PC k v=false):BA (C4 σ k f) v=BA σ v:=by
 cases v with
 | row j t z o n =>
  simp only[PC]at h;cases hb:Nat.beq j k
  ·simp only[BA,CU f (FD.1 hb)]
  ·obtain rfl:=BK.1 hb
   simp only[hb,cond_true]at h;cases t with
   | zero=>simp only[BA,BX,hf]
   | succ t=>cases h
 | ptr j t a b =>
  simp only[PC]at h;cases hb:Nat.beq j k
  ·simp only[BA,CU f (FD.1 hb)]
  ·obtain rfl:=BK.1 hb
   simp only[hb,cond_true]at h;cases t with
   | zero=>simp only[BA,BX,hf]
   | succ t=>cases h
 | _=>rfl
theorem WM (hf:f 0=σ k 0) : ∀ {cs:List AV},OL k cs=false->cs.map (BA (C4 σ k f))=cs.map (BA σ)
 | [],_=>rfl
 | c::r,h=>by
  simp only[OL]at h;cases h1:PC k c<;>simp only[h1,cond_true,cond_false]at h
  ·rw[List.map_cons,List.map_cons,gW hf h1,WM hf h]
  ·cases h
theorem tY (hf:f 0=σ k 0) : ∀ {es:List (List AV)},SZ k es=false->(es.map λ cs=>cs.map (BA (C4 σ k f)))=es.map λ cs=>cs.map (BA σ)
 | [],_=>rfl
 | c::r,h=>by
  simp only[SZ]at h;cases h1:OL k c<;>simp only[h1,cond_true,cond_false]at h
  ·rw[List.map_cons,List.map_cons,WM hf h1,tY hf h]
  ·cases h
theorem WN {v:AV} (hf:f 0=σ k 0) (h:RE k v=false):BV (C4 σ k f) v=BV σ v:=by
 cases v with
 | agg cs=>simp only[RE]at h;simp only[BV,WM hf h]
 | fn p f g cs=>simp only[RE]at h;simp only[BV,WM hf h]
 | row a b c d e=>exact gW (v := .row a b c d e) hf h
 | ptr a b c d=>exact gW (v := .ptr a b c d) hf h
 | _=>rfl
theorem tZ (hf:f 0=σ k 0) : ∀ {cs:List AV},SY k cs=false->cs.map (BV (C4 σ k f))=cs.map (BV σ)
 | [],_=>rfl
 | c::r,h=>by
  simp only[SY]at h;cases h1:RE k c<;>simp only[h1,cond_true,cond_false]at h
  ·rw[List.map_cons,List.map_cons,WN hf h1,tZ hf h]
  ·cases h
theorem uB {v:AV} (hf:f 0=σ k 0) (h:P7 k v=false):BH (C4 σ k f) v=BH σ v:=by
 cases v with
 | g7 cs=>simp only[P7]at h;simp only[BH,tZ hf h]
 | agg cs=>exact WN (v := .agg cs) hf h
 | fn p f g cs=>exact WN (v := .fn p f g cs) hf h
 | row a b c d e=>exact WN (v := .row a b c d e) hf h
 | ptr a b c d=>exact WN (v := .ptr a b c d) hf h
 | _=>rfl
theorem aW : ∀ {tm:Tm},I4 k tm=false -> ∀ j,P7 k (tg tm j)=false
 | [],_,_=>rfl
 | (i,v)::r,h,j=>by
  simp only[I4]at h;cases h1:P7 k v<;>simp only[h1,cond_true,cond_false]at h
  ·simp only[tg]
   cases Nat.beq j i
   ·exact aW h j
   ·exact h1
  ·cases h
theorem aV : ∀ {M:Mem},HX k M=false -> ∀ j s c,c6 M j=some (s,c)->OK k c=false
 | [],_,_,_,_,e=>by cases e
 | (i,s0,c0)::r,h,j,s,c,e=>by
  simp only[HX]at h;cases h1:OK k c0<;>simp only[h1,cond_true,cond_false]at h
  ·simp only[c6]at e
   cases h2:Nat.beq j i<;>simp only[h2,cond_true,cond_false]at e
   ·exact aV h j s c e
   ·simp only[Option.some.injEq,Prod.mk.injEq]at e
    obtain ⟨_,rfl⟩:=e;exact h1
  ·cases h
theorem jS {c:A7} {j:Nat} (hf:f 0=σ k 0) (h:OK k c=false) (hj:j≠k):c.e8 (C4 σ k f) j=c.e8 σ j:=by
 cases c with
 | bx cs=>simp only[OK]at h;simp only[A7.e8,WM hf h]
 | rw z es=>rfl
 | bs z es=>simp only[OK]at h;simp only[A7.e8,tY hf h]
 | mx rows=>simp only[A7.e8];rw[QP rows 0 λ i _=>by rw[CU f hj]]
 | hx a v rows=>simp only[A7.e8];rw[QP rows 0 λ i _=>by rw[CU f hj]]
 | vw w rows=>simp only[A7.e8];rw[QP rows 0 λ i _=>by rw[CU f hj]]
end
theorem RX.Bz (h:RX σ tm M st) {k k2 s s2 i z:Nat} {rows:List (Option (Nat × List (List AV)))} {es:List (List AV)} {c0:A7} (e:c6 M k=some (s,c0)) (gb:c0 = .mx rows \/ ∃ v,c0 = .hx i v rows) (e2:c6 M k2=some (s2,.rw z es)) (hk:k≠k2) (au:I4 k tm=false) (mc:HX k M=false) (hi:i<rows.length) :
  RX (C4 σ k λ t=>if t=i+1 then σ k2 0 else σ k t) tm ((k,s,.mx (rows.set i (some (z,es))))::n8 k2 M) ⟨st.tm,st.own.put s ((st.own s).n6 (σ k 0).2 (some ⟨1,(B5 σ k 0 rows).set i [.row (σ k2 0).1 (σ k2 0).2 z 0 es.length]⟩))⟩:=by
 have hs:=h.sat.site _ _ _ e;subst hs;have r0:=DJ e;have r2:=DJ e2;have f0:(λ t=>if t=i+1 then σ k2 0 else σ k t) 0=σ k 0:=by simp
 have js:B5 (C4 σ k λ t=>if t=i+1 then σ k2 0 else σ k t) k 0 (rows.set i (some (z,es)))=(B5 σ k 0 rows).set i [.row (σ k2 0).1 (σ k2 0).2 z 0 es.length]:=by
  apply List.ext_getElem?;intro j;rw[E3,BX];by_cases hj:i=j
  ·subst hj
   rw[List.getElem?_set_self hi,List.getElem?_set_self (by rw[E4];exact hi)];simp
  ·rw[List.getElem?_set_ne hj,List.getElem?_set_ne hj,E3]
   congr 1;funext r
   cases r with
   | none=>rfl
   | some x=>simp only[Nat.zero_add];rw[if_neg (by omega)]
 have hg : ∀ j t c,b8 ((k,(σ k 0).1,.mx (rows.set i (some (z,es))))::n8 k2 M) j t=some c ->
   (j=k/\t=0/\c = .mx (rows.set i (some (z,es))))\/(j=k/\t=i+1/\c = .rw z es)\/(j=k/\t≠0/\t≠i+1/\b8 M k t=some c)\/(j≠k/\j≠k2/\b8 M j t=some c):=by
  intro j t c g;by_cases hj:j=k
  ·subst hj
   cases t with
   | zero=>rw[QN]at g;exact Or.inl ⟨rfl,rfl,(Option.some.inj g).symm⟩
   | succ t =>
    simp only[b8,c6,Nat.beq_refl,cond_true]at g;by_cases se:i=t
    ·subst se
     rw[List.getElem?_set_self hi]at g;exact Or.inr (Or.inl ⟨rfl,rfl,(Option.some.inj g).symm⟩)
    ·rw[List.getElem?_set_ne se]at g
     refine Or.inr (Or.inr (Or.inl ⟨rfl,by omega,by omega,?_⟩));rcases gb with rfl|⟨v,rfl⟩
     ·simp only[b8,e]
      exact g
     ·simp only[b8,e]
      exact g
  ·rw[J5 hj]at g
   obtain ⟨g1,g2⟩:=LC g;exact Or.inr (Or.inr (Or.inr ⟨hj,g1,g2⟩))
 have Ka : ∀ j t c,b8 M j t=some c->OK k c=false:=by
  intro j t c g;obtain ⟨s1,c0,g1,g2,g3⟩:=HD g;cases t with
  | zero=>rw[g2 rfl];exact aV mc _ _ _ g1
  | succ t=>obtain ⟨_,_,_,_,_,rfl⟩:=g3 t rfl;rfl
 refine ⟨λ j => ?_,⟨?_,?_,?_,?_,?_⟩⟩
 ·rw[uB (f:=λ t=>if t=i+1 then σ k2 0 else σ k t) f0 (aW au j)];exact h.tm j
 ·intro j s' c g
  simp only[c6]at g;cases hb:Nat.beq j k<;>simp only[hb,cond_true,cond_false]at g
  ·rw[CU _ (FD.1 hb)];exact h.sat.site _ _ _ (OU g).2
  ·simp only[Option.some.injEq,Prod.mk.injEq]at g
   rw[BK.1 hb,BX,<-g.1];simp
 ·intro j t c g
  rcases hg j t c g with ⟨rfl,rfl,rfl⟩|⟨rfl,rfl,rfl⟩|⟨rfl,h0,h1,g2⟩|⟨h0,h1,g2⟩
  ·rw[BX]
   simp only[A7.e8,js];exact ZC
  ·rw[BX]
   simp only[if_true];exact (RY (λ he=>hk (h.sat.inj _ _ _ _ _ _ r2 r0 he).1.symm)).trans (h.sat.e8 _ _ _ r2)
  ·rw[BX]
   simp only[h1,if_false];have hb:c.e8 (C4 σ j λ t=>if t=i+1 then σ k2 0 else σ j t) j=c.e8 σ j:=by
    obtain ⟨_,_,_,_,g3⟩:=HD g2;obtain ⟨t',rfl⟩ : ∃ t',t=t'+1:=⟨t-1,by omega⟩;obtain ⟨_,_,_,_,_,rfl⟩:=g3 t' rfl;rfl
   rw[hb];exact (RY (λ he=>h0 (h.sat.inj _ _ _ _ _ _ g2 r0 he).2)).trans (h.sat.e8 _ _ _ g2)
  ·rw[CU _ h0,jS (f:=λ t=>if t=i+1 then σ k2 0 else σ k t) f0 (Ka _ _ _ g2) h0]
   exact (RY (λ he=>h0 (h.sat.inj _ _ _ _ _ _ g2 r0 he).1)).trans (h.sat.e8 _ _ _ g2)
 ·intro j t c g
  rw[WA];rcases hg j t c g with ⟨rfl,rfl,rfl⟩|⟨rfl,rfl,rfl⟩|⟨rfl,h0,h1,g2⟩|⟨h0,h1,g2⟩
  ·rw[BX];simpa using h.sat.old _ _ _ r0
  ·rw[BX];simpa using h.sat.old _ _ _ r2
  ·rw[BX];simp only[h1,if_false];exact h.sat.old _ _ _ g2
  ·rw[CU _ h0];exact h.sat.old _ _ _ g2
 ·-- each name is that of Da in the old memory
  have hold : ∀ j t c,b8 ((k,(σ k 0).1,.mx (rows.set i (some (z,es))))::n8 k2 M) j t=some c -> ∃ j0 t0 c0,b8 M j0 t0=some c0/\(C4 σ k λ t=>if t=i+1 then σ k2 0 else σ k t) j t=σ j0 t0/\((j0=k2/\t0=0/\j=k/\t=i+1)\/(j0=j/\t0=t/\j≠k2)):=by
   intro j t c g;rcases hg j t c g with ⟨rfl,rfl,rfl⟩|⟨rfl,rfl,rfl⟩|⟨rfl,h0,h1,g2⟩|⟨h0,h1,g2⟩
   ·exact ⟨_,_,_,r0,by rw[BX];simp,Or.inr ⟨rfl,rfl,hk⟩⟩
   ·exact ⟨_,_,_,r2,by rw[BX];simp,Or.inl ⟨rfl,rfl,rfl,rfl⟩⟩
   ·exact ⟨_,_,_,g2,by rw[BX];simp [h1],Or.inr ⟨rfl,rfl,hk⟩⟩
   ·exact ⟨_,_,_,g2,by rw[CU _ h0],Or.inr ⟨rfl,rfl,h1⟩⟩
  intro j t j' t' c c' g g' hj;obtain ⟨j0,t0,c0,a1,a2,a3⟩:=hold j t c g;obtain ⟨j1,t1,c1,b1,b2,b3⟩:=hold j' t' c' g';rw[a2,b2]at hj;obtain ⟨q1,q2⟩:=h.sat.inj _ _ _ _ _ _ a1 b1 hj;rcases a3 with ⟨x1,x2,x3,x4⟩|⟨x1,x2,x3⟩<;>rcases b3 with ⟨y1,y2,y3,y4⟩|⟨y1,y2,y3⟩
  ·exact ⟨x3.trans y3.symm,x4.trans y4.symm⟩
  ·exact absurd (y1.symm.trans (q1.symm.trans x1)) y3
  ·exact absurd (x1.symm.trans (q1.trans y1)) x3
  ·exact ⟨x1.symm.trans (q1.trans y1),x2.symm.trans (q2.trans y2)⟩
 ·intro j t c g hw
  rcases hg j t c g with ⟨rfl,rfl,rfl⟩|⟨rfl,rfl,rfl⟩|⟨rfl,h0,h1,g2⟩|⟨h0,h1,g2⟩
  ·rw[BX];simpa using h.sat.low _ _ _ r0 (by rcases gb with rfl|⟨v,rfl⟩<;>rfl)
  ·rw[BX];simpa using h.sat.low _ _ _ r2 rfl
  ·rw[BX];simp only[h1,if_false];exact h.sat.low _ _ _ g2 hw
  ·rw[CU _ h0];exact h.sat.low _ _ _ g2 hw
theorem RQ {own:AH} {q t:Nat} {b:DT} {p:Nat × Nat} (h:p≠(q,t)) (ho:p.2<(own p.1).g9):((own.put q (((own q).n6 t none).new b)) p.1).e8 p.2=(own p.1).e8 p.2:=by
 by_cases hs:p.1=q
 ·rw[hs]at ho ⊢
  rw[AH.j5];simp only[CD.new,CD.n6];have h1 : ¬ p.2=(own q).g9:=by omega
  have h2 : ¬ p.2=t:=λ e=>h (Prod.ext hs e)
  simp only[h1,h2,if_false]
 ·rw[AH.fx _ _ _ _ hs]
theorem RR {own:AH} {q t:Nat} {b:DT} (s:Nat):(own s).g9<=((own.put q (((own q).n6 t none).new b)) s).g9:=by
 by_cases hs:s=q
 ·subst hs;rw[AH.j5];simp only[CD.new,CD.n6];omega
 ·rw[AH.fx _ _ _ _ hs];exact Nat.le_refl _
theorem RX.Ig (h:RX σ tm M st) {s key sk i z:Nat} {rows:List (Option (Nat × List (List AV)))} {es es':List (List AV)} (e:c6 M key=some (sk,.mx rows)) (hr:rows[i]? = some (some (z,es))) (hm:GO s M=false) (ht:HR s tm=false) :
  RX (C4 σ s λ_=>((σ key (i+1)).1,st.own.g9 (σ key (i+1)).1)) tm ((s,(σ key (i+1)).1,.rw z es')::(key,sk,.hx i (.row (σ key (i+1)).1 (σ key (i+1)).2 z 0 es.length) (rows.set i none))::n8 key M)
   ⟨st.tm,st.own.put (σ key (i+1)).1 (((st.own (σ key (i+1)).1).n6 (σ key (i+1)).2 none).new ⟨z,es'⟩)⟩:=by
 have r0:=DJ e;have e1:b8 M key (i+1)=some (.rw z es):=by simp [b8,e,hr]
 have hi:i<rows.length:=(zS hr).1;have Ey:key≠s:=(OX hm _ _ _ e).1;have js:(B5 (C4 σ s λ_=>((σ key (i+1)).1,st.own.g9 (σ key (i+1)).1)) key 0 (rows.set i none)).set i [.row (σ key (i+1)).1 (σ key (i+1)).2 z 0 es.length]=B5 σ key 0 rows:=by
  apply List.ext_getElem?;intro j;by_cases hj:i=j
  ·subst hj
   rw[List.getElem?_set_self (by rw[E4,List.length_set];exact hi),E3,hr];simp
  ·rw[List.getElem?_set_ne hj,E3,E3,List.getElem?_set_ne hj,CU _ Ey]
 have Bm : ∀ j t c',b8 M j t=some c'->G1 s c'=false/\j≠s:=by
  intro j t c' g;obtain ⟨s1,c0,g1,g2,g3⟩:=HD g;obtain ⟨g4,g5⟩:=OX hm _ _ _ g1;refine ⟨?_,g4⟩;cases t with
  | zero=>rw[g2 rfl];exact g5
  | succ i=>obtain ⟨rows,z,es,_,_,rfl⟩:=g3 i rfl;rfl
 have hg : ∀ j t c,b8 ((s,(σ key (i+1)).1,.rw z es')::(key,sk,.hx i (.row (σ key (i+1)).1 (σ key (i+1)).2 z 0 es.length) (rows.set i none))::n8 key M) j t=some c ->
   (j=s/\t=0/\c = .rw z es')\/(j=key/\t=0/\c = .hx i (.row (σ key (i+1)).1 (σ key (i+1)).2 z 0 es.length) (rows.set i none))\/(j≠s /\ ¬ (j=key/\t=0) /\ ¬ (j=key/\t=i+1)/\(j=key -> ∃ z es,c = .rw z es)/\b8 M j t=some c):=by
  intro j t c g;by_cases hj:j=s
  ·subst hj
   obtain ⟨rfl,rfl⟩:=TT (c := .rw z es') trivial g;exact Or.inl ⟨rfl,rfl,rfl⟩
  ·rw[J5 hj]at g
   by_cases hk:j=key
   ·subst hk
    cases t with
    | zero=>rw[QN]at g;exact Or.inr (Or.inl ⟨rfl,rfl,(Option.some.inj g).symm⟩)
    | succ t =>
     simp only[b8,c6,Nat.beq_refl,cond_true]at g;by_cases se:i=t
     ·subst se
      rw[List.getElem?_set_self hi]at g;cases g
     ·rw[List.getElem?_set_ne se]at g
      refine Or.inr (Or.inr ⟨hj,by omega,by omega,λ_ => ?_,?_⟩)
      ·split at g
       ·exact ⟨_,_,(Option.some.inj g).symm⟩
       ·cases g
      ·simp only[b8,e]
       exact g
   ·rw[J5 hk]at g
    obtain ⟨g1,g2⟩:=LC g;exact Or.inr (Or.inr ⟨hj,by omega,by omega,λ h=>absurd h hk,g2⟩)
 refine ⟨λ j => ?_,⟨?_,?_,?_,?_,?_⟩⟩
 ·rw[ZX (T5 ht j)];exact h.tm j
 ·intro j s1 c g
  simp only[c6]at g;cases hb:Nat.beq j s<;>simp only[hb,cond_true,cond_false]at g
  ·rw[CU _ (FD.1 hb)]
   cases q5:Nat.beq j key<;>simp only[q5,cond_true,cond_false]at g
   ·exact h.sat.site _ _ _ (OU g).2
   ·simp only[Option.some.injEq,Prod.mk.injEq]at g
    rw[BK.1 q5,<-g.1];exact h.sat.site _ _ _ e
  ·simp only[Option.some.injEq,Prod.mk.injEq]at g
   rw[BK.1 hb,BX,<-g.1]
 ·intro j t c g
  rcases hg j t c g with ⟨rfl,rfl,rfl⟩|⟨rfl,rfl,rfl⟩|⟨h0,h1,h2,h3,g2⟩
  ·rw[BX]
   simp [AH.j5,CD.new,AH.g9,CD.n6,A7.e8]
  ·rw[CU _ Ey]
   simp only[A7.e8,js];exact (RQ (λ he=>absurd (h.sat.inj _ _ _ _ _ _ r0 e1 he).2 (by omega)) (h.sat.old _ _ _ r0)).trans (h.sat.e8 _ _ _ r0)
  ·rw[CU _ h0,XT (Bm _ _ _ g2).1 h0]
   exact (RQ (λ he=>h2 (h.sat.inj _ _ _ _ _ _ g2 e1 he)) (h.sat.old _ _ _ g2)).trans (h.sat.e8 _ _ _ g2)
 ·intro j t c g
  rcases hg j t c g with ⟨rfl,rfl,rfl⟩|⟨rfl,rfl,rfl⟩|⟨h0,h1,h2,h3,g2⟩
  ·rw[BX]
   simp [AH.j5,CD.new,AH.g9,CD.n6]
  ·rw[CU _ Ey]
   exact Nat.lt_of_lt_of_le (h.sat.old _ _ _ r0) (RR _)
  ·rw[CU _ h0]
   exact Nat.lt_of_lt_of_le (h.sat.old _ _ _ g2) (RR _)
 ·have hold : ∀ j t c,b8 ((s,(σ key (i+1)).1,.rw z es')::(key,sk,.hx i (.row (σ key (i+1)).1 (σ key (i+1)).2 z 0 es.length) (rows.set i none))::n8 key M) j t=some c->(j=s/\t=0)\/(j≠s /\ ∃ c0,b8 M j t=some c0):=by
   intro j t c g;rcases hg j t c g with ⟨rfl,rfl,rfl⟩|⟨rfl,rfl,rfl⟩|⟨h0,h1,h2,h3,g2⟩
   ·exact Or.inl ⟨rfl,rfl⟩
   ·exact Or.inr ⟨Ey,_,r0⟩
   ·exact Or.inr ⟨h0,_,g2⟩
  have mw : ∀ j0 t0 c0,b8 M j0 t0=some c0->((σ key (i+1)).1,st.own.g9 (σ key (i+1)).1)≠σ j0 t0:=by
   intro j0 t0 c0 g he;have:=h.sat.old _ _ _ g
   rw[<-he]at this;exact absurd this (Nat.lt_irrefl _)
  intro j t j' t' c c' g g' hj;rcases hold j t c g with ⟨rfl,rfl⟩|⟨a1,c1,a2⟩<;>rcases hold j' t' c' g' with ⟨rfl,rfl⟩|⟨b1,c2,b2⟩
  ·exact ⟨rfl,rfl⟩
  ·rw[BX,CU _ b1]at hj;exact absurd hj (mw _ _ _ b2)
  ·rw[BX,CU _ a1]at hj;exact absurd hj.symm (mw _ _ _ a2)
  ·rw[CU _ a1,CU _ b1]at hj
   exact h.sat.inj _ _ _ _ _ _ a2 b2 hj
 ·intro j t c g hw
  rcases hg j t c g with ⟨rfl,rfl,rfl⟩|⟨rfl,rfl,rfl⟩|⟨h0,h1,h2,h3,g2⟩
  ·rw[BX];exact h.sat.low _ _ _ e1 rfl
  ·rw[CU _ Ey];exact h.sat.low _ _ _ r0 rfl
  ·rw[CU _ h0];exact h.sat.low _ _ _ g2 hw
theorem RX.view (h:RX σ tm M st) {k s:Nat} {c0:A7} {rows:List (Option (Nat × List (List AV)))} {w:List Nat} (e:c6 M k=some (s,c0)) (gb:c0 = .mx rows \/ ∃ w0,c0 = .vw w0 rows) :
  RX σ tm ((k,s,.vw w rows)::M) ⟨st.tm,st.own.put s ((st.own s).n6 (σ k 0).2 (some (A7.e8 σ k (.vw w rows))))⟩:=by
 have hs:=h.sat.site _ _ _ e;subst hs;have r0:=DJ e;have hg : ∀ j t c,b8 ((k,(σ k 0).1,.vw w rows)::M) j t=some c->(j=k/\t=0/\c = .vw w rows)\/(¬ (j=k/\t=0)/\b8 M j t=some c):=by
  intro j t c g;by_cases hj:j=k
  ·subst hj
   cases t with
   | zero=>rw[QN]at g;exact Or.inl ⟨rfl,rfl,(Option.some.inj g).symm⟩
   | succ t =>
    refine Or.inr ⟨by omega,?_⟩;simp only[b8,c6,Nat.beq_refl,cond_true]at g;rcases gb with rfl|⟨w0,rfl⟩
    ·simp only[b8,e]
     exact g
    ·simp only[b8,e]
     exact g
  ·rw[J5 hj]at g
   exact Or.inr ⟨by omega,g⟩
 have pz : ∀ j t c1,b8 ((k,(σ k 0).1,.vw w rows)::M) j t=some c1 -> ∃ c2,b8 M j t=some c2:=by
  intro j t c1 g;rcases hg j t c1 g with ⟨rfl,rfl,rfl⟩|⟨_,h2⟩
  ·exact ⟨_,r0⟩
  ·exact ⟨_,h2⟩
 refine ⟨h.tm,⟨?_,?_,?_,?_,?_⟩⟩
 ·intro j s' c1 g
  simp only[c6]at g;cases hb:Nat.beq j k<;>simp only[hb,cond_true,cond_false]at g
  ·exact h.sat.site _ _ _ g
  ·simp only[Option.some.injEq,Prod.mk.injEq]at g
   rw[BK.1 hb];exact g.1
 ·intro j t c1 g
  rcases hg j t c1 g with ⟨rfl,rfl,rfl⟩|⟨h1,h2⟩
  ·exact ZC
  ·refine (RY (λ he => ?_)).trans (h.sat.e8 _ _ _ h2)
   exact h1 (h.sat.inj _ _ _ _ _ _ h2 r0 he)
 ·intro j t c1 g
  obtain ⟨c2,e2⟩:=pz _ _ _ g;show (σ j t).2<((st.own.put (σ k 0).1 ((st.own (σ k 0).1).n6 (σ k 0).2 _)) (σ j t).1).g9;rw[WA];exact h.sat.old _ _ _ e2
 ·intro j t j' t' c1 c2 g1 g2 hj
  obtain ⟨_,Di⟩:=pz _ _ _ g1;obtain ⟨_,Ac⟩:=pz _ _ _ g2;exact h.sat.inj _ _ _ _ _ _ Di Ac hj
 ·intro j t c1 g hw
  rcases hg j t c1 g with ⟨rfl,rfl,rfl⟩|⟨_,h2⟩
  ·exact h.sat.low _ _ _ r0 (by rcases gb with rfl|⟨w0,rfl⟩<;>rfl)
  ·exact h.sat.low _ _ _ h2 hw
theorem RX.Cb (h:RX σ tm M st) {k s:Nat} {rows o4:List (Option (Nat × List (List AV)))} {w:List Nat} (e:c6 M k=some (s,.vw w rows)) (hl:o4.length=w.length)
  (hw : ∀ (i t:Nat),w[i]? = some t -> ∃ r,rows[t]? = some r/\o4[i]? = some r) (hi : ∀ (i i' t:Nat),w[i]? = some t->w[i']? = some t->i=i') (au:I4 k tm=false) (mc:HX k M=false) :
  ∃ σ',RX σ' tm ((k,s,.mx o4)::M) st:=by
 have hs:=h.sat.site _ _ _ e;subst hs;have r0:=DJ e;obtain ⟨f,hf⟩ : ∃ f:Nat->Nat × Nat,f=λ t=>match t with|0=>σ k 0|i+1=>match w[i]? with|some v=>σ k (v+1)|none=>σ k (i+1):=⟨_,rfl⟩
 have f0:f 0=σ k 0:=by rw[hf]
 have f1 : ∀ i v,w[i]? = some v->f (i+1)=σ k (v+1):=λ i v hv=>by rw[hf];simp only[hv]
 have Ka : ∀ j t c,b8 M j t=some c->OK k c=false:=by
  intro j t c g;obtain ⟨s1,c0,g1,g2,g3⟩:=HD g;cases t with
  | zero=>rw[g2 rfl];exact aV mc _ _ _ g1
  | succ t=>obtain ⟨_,_,_,_,_,rfl⟩:=g3 t rfl;rfl
 have Cy : ∀ i,i<o4.length -> ∃ v r,w[i]? = some v/\rows[v]? = some r/\o4[i]? = some r:=λ i hi=>by
  obtain ⟨v,hv⟩ : ∃ v,w[i]? = some v:=⟨_,zE (by omega)⟩;obtain ⟨r,h1,h2⟩:=hw i v hv;exact ⟨v,r,hv,h1,h2⟩
 have js:B5 (C4 σ k f) k 0 o4=w.map λ t=>((B5 σ k 0 rows)[t]?).getD []:=by
  apply List.ext_getElem?;intro i;rw[E3,BX,List.getElem?_map];by_cases u7:i<o4.length
  ·obtain ⟨v,r,h1,h2,h3⟩:=Cy i u7
   rw[h3,h1,Option.map_some,Option.map_some,E3,h2,Option.map_some,Option.getD_some,Nat.zero_add,Nat.zero_add,f1 i v h1]
  ·rw[List.getElem?_eq_none (by omega),List.getElem?_eq_none (by omega)];rfl
 have hg : ∀ j t c,b8 ((k,(σ k 0).1,.mx o4)::M) j t=some c ->
   (j=k/\t=0/\c = .mx o4)\/(∃ i v,j=k/\t=i+1/\w[i]? = some v/\b8 M k (v+1)=some c)\/(j≠k/\b8 M j t=some c):=by
  intro j t c g;by_cases hj:j=k
  ·subst hj
   cases t with
   | zero=>rw[QN]at g;exact Or.inl ⟨rfl,rfl,(Option.some.inj g).symm⟩
   | succ t =>
    simp only[b8,c6,Nat.beq_refl,cond_true]at g;by_cases aw:t<o4.length
    ·obtain ⟨v,r,h1,h2,h3⟩:=Cy t aw
     refine Or.inr (Or.inl ⟨t,v,rfl,rfl,h1,?_⟩);rw[h3]at g;simp only[b8,e,h2];exact g
    ·rw[List.getElem?_eq_none (by omega)]at g;cases g
  ·rw[J5 hj]at g
   exact Or.inr (Or.inr ⟨hj,g⟩)
 have hcr : ∀ v c,b8 M k (v+1)=some c -> ∃ z es,c = .rw z es:=λ v c g=>by
  obtain ⟨_,_,_,_,g3⟩:=HD g;obtain ⟨_,z,es,_,_,rfl⟩:=g3 v rfl;exact ⟨z,es,rfl⟩
 refine ⟨C4 σ k f,λ j => ?_,⟨?_,?_,?_,?_,?_⟩⟩
 ·rw[uB f0 (aW au j)];exact h.tm j
 ·intro j s' c g
  simp only[c6]at g;cases hb:Nat.beq j k<;>simp only[hb,cond_true,cond_false]at g
  ·rw[CU _ (FD.1 hb)];exact h.sat.site _ _ _ g
  ·simp only[Option.some.injEq,Prod.mk.injEq]at g
   rw[BK.1 hb,BX,<-g.1,f0]
 ·intro j t c g
  rcases hg j t c g with ⟨rfl,rfl,rfl⟩|⟨i,v,rfl,rfl,h1,g2⟩|⟨h0,g2⟩
  ·rw[BX,f0]
   have:=h.sat.e8 _ _ _ r0
   simp only[A7.e8,js]at this ⊢;exact this
  ·rw[BX,f1 i v h1]
   obtain ⟨z,es,rfl⟩:=hcr v c g2;exact h.sat.e8 _ _ _ g2
  ·rw[CU _ h0,jS f0 (Ka _ _ _ g2) h0]
   exact h.sat.e8 _ _ _ g2
 ·intro j t c g
  rcases hg j t c g with ⟨rfl,rfl,rfl⟩|⟨i,v,rfl,rfl,h1,g2⟩|⟨h0,g2⟩
  ·rw[BX,f0];exact h.sat.old _ _ _ r0
  ·rw[BX,f1 i v h1];exact h.sat.old _ _ _ g2
  ·rw[CU _ h0];exact h.sat.old _ _ _ g2
 ·have hold : ∀ j t c,b8 ((k,(σ k 0).1,.mx o4)::M) j t=some c -> ∃ j0 t0 c0,b8 M j0 t0=some c0/\(C4 σ k f) j t=σ j0 t0/\((j=k/\j0=k/\((t=0/\t0=0) \/ ∃ i v,t=i+1/\t0=v+1/\w[i]? = some v))\/(j≠k/\j0=j/\t0=t)):=by
   intro j t c g;rcases hg j t c g with ⟨rfl,rfl,rfl⟩|⟨i,v,rfl,rfl,h1,g2⟩|⟨h0,g2⟩
   ·exact ⟨_,_,_,r0,by rw[BX,f0],Or.inl ⟨rfl,rfl,Or.inl ⟨rfl,rfl⟩⟩⟩
   ·exact ⟨_,_,_,g2,by rw[BX,f1 i v h1],Or.inl ⟨rfl,rfl,Or.inr ⟨i,v,rfl,rfl,h1⟩⟩⟩
   ·exact ⟨_,_,_,g2,by rw[CU _ h0],Or.inr ⟨h0,rfl,rfl⟩⟩
  intro j t j' t' c c' g g' hj;obtain ⟨j0,t0,c0,a1,a2,a3⟩:=hold j t c g;obtain ⟨j1,t1,c1,b1,b2,b3⟩:=hold j' t' c' g';rw[a2,b2]at hj;obtain ⟨q1,q2⟩:=h.sat.inj _ _ _ _ _ _ a1 b1 hj;rcases a3 with ⟨x1,x2,x3⟩|⟨x1,x2,x3⟩<;>rcases b3 with ⟨y1,y2,y3⟩|⟨y1,y2,y3⟩
  ·refine ⟨x1.trans y1.symm,?_⟩
   rcases x3 with ⟨x4,x5⟩|⟨i,v,x4,x5,x6⟩<;>rcases y3 with ⟨y4,y5⟩|⟨i',v',y4,y5,y6⟩
   ·omega
   ·omega
   ·omega
   ·obtain rfl:v=v':=by omega
    have:=hi i i' v x6 y6
    omega
  ·exact absurd (y2.symm.trans (q1.symm.trans x2)) y1
  ·exact absurd (x2.symm.trans (q1.trans y2)) x1
  ·exact ⟨x2.symm.trans (q1.trans y2),x3.symm.trans (q2.trans y3)⟩
 ·intro j t c g hw
  rcases hg j t c g with ⟨rfl,rfl,rfl⟩|⟨i,v,rfl,rfl,h1,g2⟩|⟨h0,g2⟩
  ·rw[BX,f0];exact h.sat.low _ _ _ r0 rfl
  ·rw[BX,f1 i v h1];exact h.sat.low _ _ _ g2 (YW g2)
  ·rw[CU _ h0];exact h.sat.low _ _ _ g2 hw
theorem RX.Ii (h:RX σ tm M st) {s key s':Nat} {rows:List (Option (Nat × List (List AV)))} (e:c6 M key=some (s',.mx rows)) (hm:GO s M=false) (ht:HR s tm=false) :
  RX (C4 σ s λ t=>match t with|0=>(s',st.own.g9 s')|i+1=>σ key (i+1)) tm ((s,s',.mx (rows++[none]))::n8 key M)
   ⟨st.tm,st.own.put s' (((st.own s').n6 (σ key 0).2 none).new ⟨1,B5 σ key 0 rows++[[.nil]]⟩)⟩:=by
 have hs:=h.sat.site _ _ _ e;subst hs;have r0:=DJ e;generalize hF:(λ t=>match t with|0=>((σ key 0).1,st.own.g9 (σ key 0).1)|i+1=>σ key (i+1):Nat->Nat × Nat)=F;have F0:F 0=((σ key 0).1,st.own.g9 (σ key 0).1):=by rw[<-hF]
 have F1 : ∀ i,F (i+1)=σ key (i+1):=by intro i;rw[<-hF]
 have js:B5 (C4 σ s F) s 0 (rows++[none])=B5 σ key 0 rows++[[.nil]]:=by
  apply List.ext_getElem?;intro j;rw[E3,BX];rcases Nat.lt_trichotomy j rows.length with hj|hj|hj
  ·rw[List.getElem?_append_left hj,List.getElem?_append_left (by rw[E4];exact hj),E3]
   congr 1;funext r
   cases r with
   | none=>rfl
   | some x=>simp only[Nat.zero_add];rw[F1]
  ·subst hj
   rw[List.getElem?_append_right (Nat.le_refl _),List.getElem?_append_right (by rw[E4];exact Nat.le_refl _),E4];simp
  ·rw[List.getElem?_eq_none (by simp;omega),List.getElem?_eq_none (by simp [E4];omega)];rfl
 have Bm : ∀ j t c',b8 M j t=some c'->G1 s c'=false/\j≠s:=by
  intro j t c' g;obtain ⟨s1,c0,g1,g2,g3⟩:=HD g;obtain ⟨g4,g5⟩:=OX hm _ _ _ g1;refine ⟨?_,g4⟩;cases t with
  | zero=>rw[g2 rfl];exact g5
  | succ i=>obtain ⟨rows,z,es,_,_,rfl⟩:=g3 i rfl;rfl
 have hg : ∀ j t c,b8 ((s,(σ key 0).1,.mx (rows++[none]))::n8 key M) j t=some c ->
   (j=s/\t=0/\c = .mx (rows++[none]))\/(j=s/\t≠0/\b8 M key t=some c)\/(j≠s/\j≠key/\b8 M j t=some c):=by
  intro j t c g;by_cases hj:j=s
  ·subst hj
   cases t with
   | zero=>rw[QN]at g;exact Or.inl ⟨rfl,rfl,(Option.some.inj g).symm⟩
   | succ t =>
    simp only[b8,c6,Nat.beq_refl,cond_true]at g;rcases Nat.lt_trichotomy t rows.length with nm|nm|nm
    ·rw[List.getElem?_append_left nm]at g
     refine Or.inr (Or.inl ⟨rfl,by omega,?_⟩);simp only[b8,e];exact g
    ·subst nm
     rw[List.getElem?_append_right (Nat.le_refl _),Nat.sub_self]at g;simp at g
    ·rw[List.getElem?_eq_none (by simp;omega)]at g;cases g
  ·rw[J5 hj]at g
   obtain ⟨g1,g2⟩:=LC g;exact Or.inr (Or.inr ⟨hj,g1,g2⟩)
 refine ⟨λ j => ?_,⟨?_,?_,?_,?_,?_⟩⟩
 ·rw[ZX (T5 ht j)];exact h.tm j
 ·intro j s1 c g
  simp only[c6]at g;cases hb:Nat.beq j s<;>simp only[hb,cond_true,cond_false]at g
  ·rw[CU _ (FD.1 hb)];exact h.sat.site _ _ _ (OU g).2
  ·simp only[Option.some.injEq,Prod.mk.injEq]at g
   rw[BK.1 hb,BX,F0,<-g.1]
 ·intro j t c g
  rcases hg j t c g with ⟨rfl,rfl,rfl⟩|⟨rfl,h0,g2⟩|⟨h0,h1,g2⟩
  ·rw[BX,F0]
   simp only[A7.e8,js];simp [AH.j5,CD.new,AH.g9,CD.n6]
  ·obtain ⟨t',rfl⟩ : ∃ t',t=t'+1:=⟨t-1,by omega⟩
   rw[BX,F1];have hb:c.e8 (C4 σ j F) j=c.e8 σ key:=by
    obtain ⟨_,_,_,_,g3⟩:=HD g2;obtain ⟨_,_,_,_,_,rfl⟩:=g3 t' rfl;rfl
   rw[hb];exact (RQ (λ he=>absurd (h.sat.inj _ _ _ _ _ _ g2 r0 he).2 (by omega)) (h.sat.old _ _ _ g2)).trans (h.sat.e8 _ _ _ g2)
  ·rw[CU _ h0,XT (Bm _ _ _ g2).1 h0]
   exact (RQ (λ he=>h1 (h.sat.inj _ _ _ _ _ _ g2 r0 he).1) (h.sat.old _ _ _ g2)).trans (h.sat.e8 _ _ _ g2)
 ·intro j t c g
  rcases hg j t c g with ⟨rfl,rfl,rfl⟩|⟨rfl,h0,g2⟩|⟨h0,h1,g2⟩
  ·rw[BX,F0]
   simp [AH.j5,CD.new,AH.g9,CD.n6]
  ·obtain ⟨t',rfl⟩ : ∃ t',t=t'+1:=⟨t-1,by omega⟩
   rw[BX,F1];exact Nat.lt_of_lt_of_le (h.sat.old _ _ _ g2) (RR _)
  ·rw[CU _ h0]
   exact Nat.lt_of_lt_of_le (h.sat.old _ _ _ g2) (RR _)
 ·have hold : ∀ j t c,b8 ((s,(σ key 0).1,.mx (rows++[none]))::n8 key M) j t=some c->(j=s/\t=0) \/ ∃ j0 t0 c0,b8 M j0 t0=some c0/\C4 σ s F j t=σ j0 t0/\((j0=key/\t0=t/\j=s)\/(j0=j/\t0=t/\j≠key)):=by
   intro j t c g;rcases hg j t c g with ⟨rfl,rfl,rfl⟩|⟨rfl,h0,g2⟩|⟨h0,h1,g2⟩
   ·exact Or.inl ⟨rfl,rfl⟩
   ·obtain ⟨t',rfl⟩ : ∃ t',t=t'+1:=⟨t-1,by omega⟩
    exact Or.inr ⟨_,_,_,g2,by rw[BX,F1],Or.inl ⟨rfl,rfl,rfl⟩⟩
   ·exact Or.inr ⟨_,_,_,g2,by rw[CU _ h0],Or.inr ⟨rfl,rfl,h1⟩⟩
  have mw : ∀ j0 t0 c0,b8 M j0 t0=some c0->C4 σ s F s 0≠σ j0 t0:=by
   intro j0 t0 c0 g he;rw[BX,F0]at he;have:=h.sat.old _ _ _ g
   rw[<-he]at this;exact absurd this (Nat.lt_irrefl _)
  intro j t j' t' c c' g g' hj;rcases hold j t c g with ⟨rfl,rfl⟩|⟨j0,t0,c0,a1,a2,a3⟩<;>rcases hold j' t' c' g' with ⟨rfl,rfl⟩|⟨j1,t1,c1,b1,b2,b3⟩
  ·exact ⟨rfl,rfl⟩
  ·rw[b2]at hj;exact absurd hj (mw _ _ _ b1)
  ·rw[a2]at hj;exact absurd hj.symm (mw _ _ _ a1)
  ·rw[a2,b2]at hj
   obtain ⟨q1,q2⟩:=h.sat.inj _ _ _ _ _ _ a1 b1 hj;rcases a3 with ⟨x1,x2,x3⟩|⟨x1,x2,x3⟩<;>rcases b3 with ⟨y1,y2,y3⟩|⟨y1,y2,y3⟩
   ·exact ⟨x3.trans y3.symm,x2.symm.trans (q2.trans y2)⟩
   ·exact absurd (y1.symm.trans (q1.symm.trans x1)) y3
   ·exact absurd (x1.symm.trans (q1.trans y1)) x3
   ·exact ⟨x1.symm.trans (q1.trans y1),x2.symm.trans (q2.trans y2)⟩
 ·intro j t c g hw
  rcases hg j t c g with ⟨rfl,rfl,rfl⟩|⟨rfl,h0,g2⟩|⟨h0,h1,g2⟩
  ·rw[BX,F0];exact h.sat.low _ _ _ r0 rfl
  ·obtain ⟨t',rfl⟩ : ∃ t',t=t'+1:=⟨t-1,by omega⟩
   rw[BX,F1];exact h.sat.low _ _ _ g2 hw
  ·rw[CU _ h0];exact h.sat.low _ _ _ g2 hw
theorem aU {k:Nat} {v:AV} (h:NX k v=false):PC k v=false:=by
 cases v with
 | row j t z o n=>simp only[NX]at h;simp only[PC,h,cond_false]
 | ptr j t a b=>simp only[NX]at h;simp only[PC,h,cond_false]
 | _=>rfl
theorem UU {k:Nat} : ∀ {cs:List AV},HQ k cs=false->OL k cs=false
 | [],_=>rfl
 | c::r,h=>by
  simp only[HQ]at h;cases h1:NX k c<;>simp only[h1,cond_true,cond_false]at h
  ·simp only[OL,aU h1,cond_false,UU h]
  ·cases h
theorem jY {k:Nat} : ∀ {es:List (List AV)},IR k es=false->SZ k es=false
 | [],_=>rfl
 | c::r,h=>by
  simp only[IR]at h;cases h1:HQ k c<;>simp only[h1,cond_true,cond_false]at h
  ·simp only[SZ,UU h1,cond_false,jY h]
  ·cases h
theorem UT {k:Nat} {v:AV} (h:PT k v=false):RE k v=false:=by
 cases v with
 | agg cs=>exact UU h
 | fn p f g cs=>exact UU h
 | row a b c d e=>exact aU (v := .row a b c d e) h
 | ptr a b c d=>exact aU (v := .ptr a b c d) h
 | _=>rfl
theorem jX {k:Nat} : ∀ {cs:List AV},T4 k cs=false->SY k cs=false
 | [],_=>rfl
 | c::r,h=>by
  simp only[T4]at h;cases h1:PT k c<;>simp only[h1,cond_true,cond_false]at h
  ·simp only[SY,UT h1,cond_false,jX h]
  ·cases h
theorem Tk {k:Nat} {v:AV} (h:NY k v=false):P7 k v=false:=by
 cases v with
 | g7 cs=>exact jX h
 | agg cs=>exact UT (v := .agg cs) h
 | fn p f g cs=>exact UT (v := .fn p f g cs) h
 | row a b c d e=>exact UT (v := .row a b c d e) h
 | ptr a b c d=>exact UT (v := .ptr a b c d) h
 | _=>rfl
theorem kA {k:Nat} : ∀ {tm:Tm},HR k tm=false->I4 k tm=false
 | [],_=>rfl
 | (i,v)::r,h=>by
  simp only[HR]at h;cases h1:NY k v<;>simp only[h1,cond_true,cond_false]at h
  ·simp only[I4,Tk h1,cond_false,kA h]
  ·cases h
theorem jZ {k:Nat} : ∀ {M:Mem},GO k M=false->HX k M=false
 | [],_=>rfl
 | (i,s,c)::r,h=>by
  simp only[GO]at h;cases h0:Nat.beq k i<;>simp only[h0,cond_true,cond_false]at h
  ·cases h1:G1 k c<;>simp only[h1,cond_true,cond_false]at h
   ·have:OK k c=false:=by
     cases c with
     | bx cs=>exact UU h1
     | bs z es=>exact jY h1
     | _=>rfl
    simp only[HX,this,cond_false,jZ h]
   ·cases h
  ·cases h
theorem RX.hid {M1 M2:Mem} (hm : ∀ k,c6 M1 k=c6 M2 k) (h:RX σ tm M1 st):RX σ tm M2 st:=by
 have hr : ∀ k t,b8 M1 k t=b8 M2 k t:=λ k t=>by simp only[b8,hm]
 refine ⟨h.tm,⟨λ k s c e => ?_,λ k t c e => ?_,λ k t c e => ?_,λ k t k' t' c c' e e' => ?_,λ k t c e hw => ?_⟩⟩
 ·rw[<-hm]at e;exact h.sat.site _ _ _ e
 ·rw[<-hr]at e;exact h.sat.e8 _ _ _ e
 ·rw[<-hr]at e;exact h.sat.old _ _ _ e
 ·rw[<-hr]at e e';exact h.sat.inj _ _ _ _ _ _ e e'
 ·rw[<-hr]at e;exact h.sat.low _ _ _ e hw
theorem RX.Ni (h:RX σ tm M st) {s q k2 s2 z:Nat} {es:List (List AV)} (e2:c6 M k2=some (s2,.rw z es)) (hk:s≠k2) (hm:GO s M=false) (ht:HR s tm=false) (hq:EN q=true) :
  ∃ σ',σ' s 0=(q,st.own.g9 q)/\RX σ' tm ((s,q,.mx [some (z,es)])::n8 k2 M) ⟨st.tm,st.own.put q ((st.own q).new ⟨1,[[.row (σ k2 0).1 (σ k2 0).2 z 0 es.length]]⟩)⟩:=by
 have df:A7.flat (.mx [none]):=by
  intro i x hx;cases i with
  | zero=>simp at hx
  | succ i=>simp at hx
 have h1:=h.db (s:=s) (q:=q) hm ht (.mx [none]) df rfl (λ_=>hq);have Ac:c6 ((s,q,.mx [none])::M) k2=some (s2,.rw z es):=by
  simp only[c6,FD.2 (λ e=>hk e.symm),cond_false];exact e2
 have mc:HX s ((s,q,.mx [none])::M)=false:=by simp only[HX,OK,cond_false,jZ hm]
 have h2:=h1.Bz (k:=s) (s:=q) (k2:=k2) (i:=0) (rows:=[none]) (c0 := .mx [none]) (by simp [c6]) (Or.inl rfl) Ac hk (kA ht) mc (by simp);refine ⟨C4 σ s (λ t=>if t=0+1 then σ k2 0 else (q,st.own.g9 q)),?_,?_⟩
 ·rw[BX];simp
 ·have hσ:(C4 (C4 σ s λ_=>(q,st.own.g9 q)) s λ t=>if t=0+1 then (C4 σ s λ_=>(q,st.own.g9 q)) k2 0 else (C4 σ s λ_=>(q,st.own.g9 q)) s t)=C4 σ s (λ t=>if t=0+1 then σ k2 0 else (q,st.own.g9 q)):=by
   funext j t
   by_cases hj:j=s
   ·subst hj;rw[BX,BX];simp only[BX,CU _ (λ e=>hk e.symm)]
   ·rw[CU _ hj,CU _ hj,CU _ hj]
  rw[hσ]at h2;have hM:n8 k2 ((s,q,A7.mx [none])::M)=(s,q,.mx [none])::n8 k2 M:=by
   simp only[n8,FD.2 (λ e=>hk e.symm),cond_false]
  rw[hM]at h2;have ho : ∀ b b':DT,(st.own.put q ((st.own q).new b)).put q (((st.own.put q ((st.own q).new b)) q).n6 (st.own.g9 q) (some b'))=st.own.put q ((st.own q).new b'):=by
   intro b b';rw[AH.ik,AH.j5];congr 1;simp only[CD.n6,CD.new,AH.g9,CD.mk.injEq,true_and];funext t'
   by_cases nm:t'=(st.own q).g9<;>simp [nm]
  have hn:(C4 σ s λ_=>(q,st.own.g9 q)) s 0=(q,st.own.g9 q):=by rw[BX]
  have ia:(C4 σ s λ_=>(q,st.own.g9 q)) k2=σ k2:=CU _ (λ e=>hk e.symm);simp only[hn,ia]at h2;rw[ho]at h2;refine RX.hid (λ k => ?_) h2;simp only[c6];cases Nat.beq k s<;>rfl
theorem RX.Ih (h:RX σ tm M st) {s key k2 ky s' s2 z:Nat} {rows:List (Option (Nat × List (List AV)))} {es:List (List AV)} (e:c6 M key=some (s',.mx rows)) (e2:c6 M k2=some (s2,.rw z es)) (hk:key≠k2) (hm:GO s M=false) (ht:HR s tm=false) :
  RX (C4 σ s λ t=>match t with|0=>(s',st.own.g9 s')|i+1=>if i=rows.length then σ k2 0 else σ key (i+1)) tm ((s,s',.mx (rows++[some (z,es)]))::n8 key (n8 k2 (n8 ky M)))
   ⟨st.tm,st.own.put s' (((st.own s').n6 (σ key 0).2 none).new ⟨1,B5 σ key 0 rows++[[.row (σ k2 0).1 (σ k2 0).2 z 0 es.length]]⟩)⟩:=by
 have hs:=h.sat.site _ _ _ e;subst hs;have r0:=DJ e;have r2:=DJ e2;generalize hF:(λ t=>match t with|0=>((σ key 0).1,st.own.g9 (σ key 0).1)|i+1=>if i=rows.length then σ k2 0 else σ key (i+1):Nat->Nat × Nat)=F;have F0:F 0=((σ key 0).1,st.own.g9 (σ key 0).1):=by rw[<-hF]
 have F1 : ∀ i,F (i+1)=if i=rows.length then σ k2 0 else σ key (i+1):=by intro i;rw[<-hF]
 have js:B5 (C4 σ s F) s 0 (rows++[some (z,es)])=B5 σ key 0 rows++[[.row (σ k2 0).1 (σ k2 0).2 z 0 es.length]]:=by
  apply List.ext_getElem?;intro j;rw[E3,BX];rcases Nat.lt_trichotomy j rows.length with hj|hj|hj
  ·rw[List.getElem?_append_left hj,List.getElem?_append_left (by rw[E4];exact hj),E3]
   congr 1;funext r
   cases r with
   | none=>rfl
   | some x=>simp only[Nat.zero_add];rw[F1,if_neg (by omega)]
  ·subst hj
   rw[List.getElem?_append_right (Nat.le_refl _),List.getElem?_append_right (by rw[E4];exact Nat.le_refl _),E4];simp [F1]
  ·rw[List.getElem?_eq_none (by simp;omega),List.getElem?_eq_none (by simp [E4];omega)];rfl
 have Bm : ∀ j t c',b8 M j t=some c'->G1 s c'=false/\j≠s:=by
  intro j t c' g;obtain ⟨s1,c0,g1,g2,g3⟩:=HD g;obtain ⟨g4,g5⟩:=OX hm _ _ _ g1;refine ⟨?_,g4⟩;cases t with
  | zero=>rw[g2 rfl];exact g5
  | succ i=>obtain ⟨rows,z,es,_,_,rfl⟩:=g3 i rfl;rfl
 have hg : ∀ j t c,b8 ((s,(σ key 0).1,.mx (rows++[some (z,es)]))::n8 key (n8 k2 (n8 ky M))) j t=some c ->
   (j=s/\t=0/\c = .mx (rows++[some (z,es)]))\/(j=s/\t=rows.length+1/\c = .rw z es)\/(j=s/\t≠0/\t≠rows.length+1/\b8 M key t=some c)\/(j≠s/\j≠key/\j≠k2/\b8 M j t=some c):=by
  intro j t c g;by_cases hj:j=s
  ·subst hj
   cases t with
   | zero=>rw[QN]at g;exact Or.inl ⟨rfl,rfl,(Option.some.inj g).symm⟩
   | succ t =>
    simp only[b8,c6,Nat.beq_refl,cond_true]at g;rcases Nat.lt_trichotomy t rows.length with nm|nm|nm
    ·rw[List.getElem?_append_left nm]at g
     refine Or.inr (Or.inr (Or.inl ⟨rfl,by omega,by omega,?_⟩));simp only[b8,e];exact g
    ·subst nm
     rw[List.getElem?_append_right (Nat.le_refl _),Nat.sub_self]at g;exact Or.inr (Or.inl ⟨rfl,rfl,(Option.some.inj g).symm⟩)
    ·rw[List.getElem?_eq_none (by simp;omega)]at g;cases g
  ·rw[J5 hj]at g
   obtain ⟨g1,g2⟩:=LC g;obtain ⟨g3,g4⟩:=LC g2;obtain ⟨_,g5⟩:=LC g4;exact Or.inr (Or.inr (Or.inr ⟨hj,g1,g3,g5⟩))
 refine ⟨λ j => ?_,⟨?_,?_,?_,?_,?_⟩⟩
 ·rw[ZX (T5 ht j)];exact h.tm j
 ·intro j s1 c g
  simp only[c6]at g;cases hb:Nat.beq j s<;>simp only[hb,cond_true,cond_false]at g
  ·rw[CU _ (FD.1 hb)];exact h.sat.site _ _ _ (OU (OU (OU g).2).2).2
  ·simp only[Option.some.injEq,Prod.mk.injEq]at g
   rw[BK.1 hb,BX,F0,<-g.1]
 ·intro j t c g
  rcases hg j t c g with ⟨rfl,rfl,rfl⟩|⟨rfl,rfl,rfl⟩|⟨rfl,h0,h1,g2⟩|⟨h0,h1,h2,g2⟩
  ·rw[BX,F0]
   simp only[A7.e8,js];simp [AH.j5,CD.new,AH.g9,CD.n6]
  ·rw[BX,F1,if_pos rfl]
   exact (RQ (λ he=>hk (h.sat.inj _ _ _ _ _ _ r2 r0 he).1.symm) (h.sat.old _ _ _ r2)).trans (h.sat.e8 _ _ _ r2)
  ·obtain ⟨t',rfl⟩ : ∃ t',t=t'+1:=⟨t-1,by omega⟩
   rw[BX,F1,if_neg (by omega)];have hb:c.e8 (C4 σ j F) j=c.e8 σ key:=by
    obtain ⟨_,_,_,_,g3⟩:=HD g2;obtain ⟨_,_,_,_,_,rfl⟩:=g3 t' rfl;rfl
   rw[hb];exact (RQ (λ he=>absurd (h.sat.inj _ _ _ _ _ _ g2 r0 he).2 (by omega)) (h.sat.old _ _ _ g2)).trans (h.sat.e8 _ _ _ g2)
  ·rw[CU _ h0,XT (Bm _ _ _ g2).1 h0]
   exact (RQ (λ he=>h1 (h.sat.inj _ _ _ _ _ _ g2 r0 he).1) (h.sat.old _ _ _ g2)).trans (h.sat.e8 _ _ _ g2)
 ·intro j t c g
  rcases hg j t c g with ⟨rfl,rfl,rfl⟩|⟨rfl,rfl,rfl⟩|⟨rfl,h0,h1,g2⟩|⟨h0,h1,h2,g2⟩
  ·rw[BX,F0]
   simp [AH.j5,CD.new,AH.g9,CD.n6]
  ·rw[BX,F1,if_pos rfl]
   exact Nat.lt_of_lt_of_le (h.sat.old _ _ _ r2) (RR _)
  ·obtain ⟨t',rfl⟩ : ∃ t',t=t'+1:=⟨t-1,by omega⟩
   rw[BX,F1,if_neg (by omega)];exact Nat.lt_of_lt_of_le (h.sat.old _ _ _ g2) (RR _)
  ·rw[CU _ h0]
   exact Nat.lt_of_lt_of_le (h.sat.old _ _ _ g2) (RR _)
 ·have hold : ∀ j t c,b8 ((s,(σ key 0).1,.mx (rows++[some (z,es)]))::n8 key (n8 k2 (n8 ky M))) j t=some c->(j=s/\t=0) \/ ∃ j0 t0 c0,b8 M j0 t0=some c0/\C4 σ s F j t=σ j0 t0/\((j0=k2/\t0=0/\j=s/\t=rows.length+1)\/(j0=key/\t0=t/\j=s)\/(j0=j/\t0=t/\j≠key/\j≠k2)):=by
   intro j t c g;rcases hg j t c g with ⟨rfl,rfl,rfl⟩|⟨rfl,rfl,rfl⟩|⟨rfl,h0,h1,g2⟩|⟨h0,h1,h2,g2⟩
   ·exact Or.inl ⟨rfl,rfl⟩
   ·exact Or.inr ⟨_,_,_,r2,by rw[BX,F1,if_pos rfl],Or.inl ⟨rfl,rfl,rfl,rfl⟩⟩
   ·obtain ⟨t',rfl⟩ : ∃ t',t=t'+1:=⟨t-1,by omega⟩
    exact Or.inr ⟨_,_,_,g2,by rw[BX,F1,if_neg (by omega)],Or.inr (Or.inl ⟨rfl,rfl,rfl⟩)⟩
   ·exact Or.inr ⟨_,_,_,g2,by rw[CU _ h0],Or.inr (Or.inr ⟨rfl,rfl,h1,h2⟩)⟩
  have mw : ∀ j0 t0 c0,b8 M j0 t0=some c0->C4 σ s F s 0≠σ j0 t0:=by
   intro j0 t0 c0 g he;rw[BX,F0]at he;have:=h.sat.old _ _ _ g
   rw[<-he]at this;exact absurd this (Nat.lt_irrefl _)
  intro j t j' t' c c' g g' hj;rcases hold j t c g with ⟨rfl,rfl⟩|⟨j0,t0,c0,a1,a2,a3⟩<;>rcases hold j' t' c' g' with ⟨rfl,rfl⟩|⟨j1,t1,c1,b1,b2,b3⟩
  ·exact ⟨rfl,rfl⟩
  ·rw[b2]at hj;exact absurd hj (mw _ _ _ b1)
  ·rw[a2]at hj;exact absurd hj.symm (mw _ _ _ a1)
  ·rw[a2,b2]at hj
   obtain ⟨q1,q2⟩:=h.sat.inj _ _ _ _ _ _ a1 b1 hj;rcases a3 with ⟨x1,x2,x3,x4⟩|⟨x1,x2,x3⟩|⟨x1,x2,x3,x4⟩<;>rcases b3 with ⟨y1,y2,y3,y4⟩|⟨y1,y2,y3⟩|⟨y1,y2,y3,y4⟩
   ·exact ⟨x3.trans y3.symm,x4.trans y4.symm⟩
   ·exact absurd (y1.symm.trans (q1.symm.trans x1)) hk
   ·exact absurd (y1.symm.trans (q1.symm.trans x1)) y4
   ·exact absurd (x1.symm.trans (q1.trans y1)) hk
   ·exact ⟨x3.trans y3.symm,x2.symm.trans (q2.trans y2)⟩
   ·exact absurd (y1.symm.trans (q1.symm.trans x1)) y3
   ·exact absurd (x1.symm.trans (q1.trans y1)) x4
   ·exact absurd (x1.symm.trans (q1.trans y1)) x3
   ·exact ⟨x1.symm.trans (q1.trans y1),x2.symm.trans (q2.trans y2)⟩
 ·intro j t c g hw
  rcases hg j t c g with ⟨rfl,rfl,rfl⟩|⟨rfl,rfl,rfl⟩|⟨rfl,h0,h1,g2⟩|⟨h0,h1,h2,g2⟩
  ·rw[BX,F0];exact h.sat.low _ _ _ r0 rfl
  ·rw[BX,F1,if_pos rfl];exact h.sat.low _ _ _ r2 rfl
  ·obtain ⟨t',rfl⟩ : ∃ t',t=t'+1:=⟨t-1,by omega⟩
   rw[BX,F1,if_neg (by omega)];exact h.sat.low _ _ _ g2 hw
  ·rw[CU _ h0];exact h.sat.low _ _ _ g2 hw
theorem GQ (k:IntKind) (n:Int):BH σ (.int k n) = .int k n:=rfl
theorem GP (b:Bool):BH σ (.bool b) = .bool b:=rfl
theorem GR (l:Bool) (es:List (List AV)):BH σ (.sl l es) = .sl l es:=rfl
theorem C6 (k t z o n:Nat):BH σ (.row k t z o n) = .row (σ k t).1 (σ k t).2 z o n:=rfl
theorem EB (k t i j:Nat):BH σ (.ptr k t i j) = .ptr (σ k t).1 (σ k t).2 i j:=rfl
theorem HS (cs:List AV):BH σ (.o7 cs) = .o7 cs:=rfl
theorem EZ:BH σ .nil = .nil:=rfl
theorem G2 (cs:List AV):BH σ (.agg cs) = .agg (cs.map (BA σ)):=rfl
theorem Agb (v:Value):BH σ (.cj v) = .cj v:=rfl
theorem WH (p:Bool) (f g:Nat) (cs:List AV):BH σ (.fn p f g cs) = .fn p f g (cs.map (BA σ)):=rfl
theorem HT (cs:List AV):BH σ (.g7 cs) = .g7 (cs.map (BV σ)):=rfl
def CB.res (own:AH):CB->AV × AH
 | .val v=>(v,own)
 | .new s b f=>(f (own.g9 s),own.put s ((own s).new b))
 | .ye s b f=>(f (own.g9 s),own.put s ((own s).new b))
 | .bu v o=>(v,o)
 | .n6 s x=>(.g7 [],own.put s x)
 | .sv s x v=>(v,own.put s x)
theorem aN (st:St) (d:Option Nat) (E:CB):st.app d E=⟨(st.dst d (E.res st.own).1).tm,(E.res st.own).2⟩:=by
 cases E<;>cases d<;>rfl
def BM (L:Lib) (tm:Tm) (b9:List Nat) (K:AV->Mem->Prop) (op:DY) (st:St):Prop :=
 ∃ E σ' v M',(∀ c,c9 (C3 L c) b9 st.ev st.own op=some E)/\K v M'/\(E.res st.own).1=BH σ' v/\RX σ' tm M' ⟨st.tm,(E.res st.own).2⟩
theorem BM.val {L:Lib} {b9:List Nat} {K:AV->Mem->Prop} {op:DY} (h:RX σ tm M st) (v:AV) (he : ∀ c,c9 (C3 L c) b9 st.ev st.own op=some (.val (BH σ v))) (hk:K v M):BM L tm b9 K op st :=
 ⟨_,σ,v,M,he,hk,rfl,h⟩
variable {L:Lib} {b9:List Nat} {K:AV->Mem->Prop}
theorem yV {x:AP} (hr:RX σ tm M st) (h:XE L tm M b9 K (.b7 x)):BM L tm b9 K (.b7 x) st:=by
 simp only[XE]at h;obtain ⟨h1,h2⟩:=YM h;exact BM.val hr _ (λ C=>by simp only[c9,hr.ev rfl h1]) h2
theorem zC {s z:Nat} (hr:RX σ tm M st) (h:XE L tm M b9 K (.s9 s z)):BM L tm b9 K (.s9 s z) st:=by
 simp only[XE]at h;cases dm:EN s<;>simp only[dm,cond_true,cond_false]at h;obtain ⟨k,h1,h2,h3⟩:=GH h;refine ⟨_,_,_,_,λ C=>rfl,h3,?_,hr.db h1 h2 (.rw z []) trivial rfl (λ_=>dm)⟩;simp only[CB.res,C6,EB,BX]
theorem yX {c a b:AP} (hr:RX σ tm M st) (h:XE L tm M b9 K (.pick c a b)):BM L tm b9 K (.pick c a b) st:=by
 simp only[XE]at h;split at h
 ·rename_i e
  obtain ⟨h1,h2⟩:=YM h;exact BM.val hr _ (λ C=>by simp only[c9,hr.ev e (by intro e;cases e),hr.ev rfl h1,GQ,GP,GR,C6,EB,HS,EZ,G2,HT]) h2
 ·rename_i e
  obtain ⟨h1,h2⟩:=YM h;exact BM.val hr _ (λ C=>by simp only[c9,hr.ev e (by intro e;cases e),hr.ev rfl h1,GQ,GP,GR,C6,EB,HS,EZ,G2,HT]) h2
 ·exact h.elim
theorem Zm {op:BinOp} {k k':IntKind} {a b:Int} {v:AV} (h:DI op k a k' b=some v):BH σ v=v:=by
 cases op<;>simp only[DI]at h<;>split at h<;>first|(obtain rfl:=Option.some.inj h;rfl)|cases h
theorem AeM {k k':IntKind} (h:kq k k'=true):k=k':=by simpa [kq] using h
theorem zV {op:BinOp} {k k':IntKind} {a b:Int} {K:AV->Prop} (h:aP op k a k' b K) : ∃ v,DI op k a k' b=some v/\K v:=by
 have key : ∀ (p q:Prop) [Decidable p] (A B:Prop) (c:Bool),(¬ p->q)->AF p q A B->(p/\A)\/(¬ p/\B):=by
  intro p q _ A B _ hq hc;by_cases hp:p
  ·exact Or.inl ⟨hp,hc.1 hp⟩
  ·exact Or.inr ⟨hp,hc.2 (hq hp)⟩
 cases op;all_goals try (exact h)
 all_goals (
  simp only[aP]at h;cases hk:kq k k'<;>simp only[hk,cond_true,cond_false]at h;obtain rfl:=AeM hk;simp only[DI,if_true])
 ·rcases key (a=b) _ _ _ true (λ e=>e) h with ⟨h1,h2⟩|⟨h1,h2⟩
  ·exact ⟨_,rfl,by rw[show (a == b)=true by simpa using h1];exact h2⟩
  ·exact ⟨_,rfl,by rw[show (a == b)=false by simpa using h1];exact h2⟩
 ·rcases key (a≠b) _ _ _ true (λ e=>by omega) h with ⟨h1,h2⟩|⟨h1,h2⟩
  ·exact ⟨_,rfl,by rw[show (a != b)=true by simpa using h1];exact h2⟩
  ·exact ⟨_,rfl,by rw[show (a != b)=false by simpa using h1];exact h2⟩
 ·rcases key (a<b) _ _ _ true (λ e=>by omega) h with ⟨h1,h2⟩|⟨h1,h2⟩
  ·exact ⟨_,rfl,by simpa [h1] using h2⟩
  ·exact ⟨_,rfl,by simpa [h1] using h2⟩
 ·rcases key (a<=b) _ _ _ true (λ e=>by omega) h with ⟨h1,h2⟩|⟨h1,h2⟩
  ·exact ⟨_,rfl,by simpa [h1] using h2⟩
  ·exact ⟨_,rfl,by simpa [h1] using h2⟩
 ·rcases key (b<a) _ _ _ true (λ e=>by omega) h with ⟨h1,h2⟩|⟨h1,h2⟩
  ·exact ⟨_,rfl,by simpa [h1] using h2⟩
  ·exact ⟨_,rfl,by simpa [h1] using h2⟩
 ·rcases key (b<=a) _ _ _ true (λ e=>by omega) h with ⟨h1,h2⟩|⟨h1,h2⟩
  ·exact ⟨_,rfl,by simpa [h1] using h2⟩
  ·exact ⟨_,rfl,by simpa [h1] using h2⟩
theorem yA {op:BinOp} {x y:AP} (hr:RX σ tm M st) (h:XE L tm M b9 K (.bin op x y)):BM L tm b9 K (.bin op x y) st:=by
 simp only[XE]at h;split at h
 ·rename_i k a k' b e1 e2
  obtain ⟨v,hv,hk⟩:=zV h;exact BM.val hr v (λ C=>by
   simp only[c9,hr.ev e1 (by intro e;cases e),hr.ev e2 (by intro e;cases e),GQ,GP,GR,C6,EB,HS,EZ,G2,HT,hv,Option.map_some];exact congrArg some (congrArg CB.val (Zm (σ:=σ) hv).symm)) hk
 ·exact h.elim
theorem xZ {ne:Bool} {x y:AP} (hr:RX σ tm M st) (h:XE L tm M b9 K (.beq ne x y)):BM L tm b9 K (.beq ne x y) st:=by
 simp only[XE]at h;split at h
 ·rename_i a b e1 e2
  rw[PI]at h;exact BM.val hr _ (λ C=>by
   simp only[c9,hr.ev e1 (by intro e;cases e),hr.ev e2 (by intro e;cases e),GQ,GP,GR,C6,EB,HS,EZ,G2,HT];cases ne<;>rfl) h
 ·exact h.elim
theorem dG : ∀ {cs:List AV} {a:List Int},HO cs=some a->cs.map (BA σ)=cs
 | [],_,_=>rfl
 | c::r,a,h=>by
  cases c with
  | int k n =>
   cases k<;>simp only[HO]at h<;>first|cases h|skip
   cases hr:HO r with
   | none=>rw[hr]at h;cases h
   | some b=>rw[List.map_cons,dG hr];rfl
  | _=>simp only[HO]at h;cases h
theorem xR {ne:Bool} {n:Nat} {x y:AP} (hr:RX σ tm M st) (h:XE L tm M b9 K (.qh ne n x y)):BM L tm b9 K (.qh ne n x y) st:=by
 simp only[XE]at h;split at h
 ·rename_i cs ds e1 e2
  obtain ⟨a,b,h1,h2,h3,h4,h⟩:=h;rw[PI]at h;exact BM.val hr _ (λ C=>by
   simp only[c9,hr.ev e1 (by intro e;cases e),hr.ev e2 (by intro e;cases e),G2,dG h1,dG h2,h1,h2];rw[if_pos ⟨h3,h4⟩];cases ne<;>rfl) h
 ·exact h.elim
theorem zB {op:UnOp} {x:AP} (hr:RX σ tm M st) (h:XE L tm M b9 K (.un op x)):BM L tm b9 K (.un op x) st:=by
 simp only[XE]at h;split at h
 ·rename_i k n e1
  obtain ⟨v,hv,hk⟩:=h;refine BM.val hr v (λ C => ?_) hk;simp only[c9,hr.ev e1 (by intro e;cases e),GQ,GP,GR,C6,EB,HS,EZ,G2,HT,hv,Option.map_some];cases op<;>simp only[Q0,Option.some.injEq,reduceCtorEq]at hv<;>subst hv<;>rfl
 ·rename_i b e1
  split at h
  ·rw[PI]at h
   exact BM.val hr _ (λ C=>by simp only[c9,hr.ev e1 (by intro e;cases e),GQ,GP,GR,C6,EB,HS,EZ,G2,HT,Q0,Option.map_some]) h
  ·exact h.elim
 ·exact h.elim
theorem yF {k:IntKind} {x:AP} (hr:RX σ tm M st) (h:XE L tm M b9 K (.conv k x)):BM L tm b9 K (.conv k x) st:=by
 simp only[XE]at h;split at h
 ·rename_i k' n e1
  exact BM.val hr _ (λ C=>by simp only[c9,hr.ev e1 (by intro e;cases e),GQ,GP,GR,C6,EB,HS,EZ,G2,HT]) h
 ·exact h.elim
theorem yB {s:Nat} {x:AP} (hr:RX σ tm M st) (h:XE L tm M b9 K (.box s x)):BM L tm b9 K (.box s x) st:=by
 simp only[XE]at h;obtain ⟨h0,cs,hc,h⟩:=YL h;obtain ⟨k,h1,h2,h3⟩:=GH h;refine ⟨.new s (A7.e8 σ k (.bx cs)) (λ t => .ptr s t 0 0),_,_,_,λ C => ?_,h3,?_,hr.db h1 h2 (.bx cs) trivial (sK (oB h2 x) hc) (λ h=>nomatch h)⟩
 ·simp only[c9,hr.ev rfl h0,OJ hc,List.length_map,A7.e8]
 ·simp only[CB.res,C6,EB,BX]
theorem xS {s:Nat} {z:List AV} (hr:RX σ tm M st) (h:XE L tm M b9 K (.alloc s z)):BM L tm b9 K (.alloc s z) st:=by
 simp only[XE]at h;cases hd:D5 z<;>simp only[hd,cond_true,cond_false]at h;obtain ⟨k,h1,h2,h3⟩:=GH h;refine ⟨.new s (A7.e8 σ k (.bx z)) (λ t => .ptr s t 0 0),_,_,_,λ C => ?_,h3,?_,hr.db h1 h2 (.bx z) trivial (bK hd) (λ h=>nomatch h)⟩
 ·simp only[c9,A7.e8,H1 hd]
 ·simp only[CB.res,C6,EB,BX]
theorem V6 {cs ds:List AV} {off n:Nat} (h:part cs off n=some ds):part (cs.map (BA σ)) off n=some (ds.map (BA σ)):=by
 simp only[part]at h ⊢;split at h
 ·rename_i hl
  rw[if_pos (by simpa using hl)];obtain rfl:=Option.some.inj h;rw[List.map_take,List.map_drop]
 ·cases h
theorem oD {v:AV} {K:AV->Prop} (h:fF v K):v ≠ .any/\BH σ v=BA σ v/\K v:=by
 cases v<;>simp only[fF]at h<;>first|exact h.elim|exact ⟨(by intro e;cases e),rfl,h⟩
theorem OV (σ:FH) {agg:Bool} {ds:List AV} {K:AV->Prop} (h:nv agg ds K) : ∃ v,H4 agg (ds.map (BA σ))=some (BH σ v)/\K v:=by
 cases agg
 ·simp only[nv]at h
  split at h
  ·rename_i c
   obtain ⟨_,h1,h2⟩:=oD (σ:=σ) h;exact ⟨c,by rw[h1];rfl,h2⟩
  ·exact h.elim
 ·exact ⟨.agg ds,rfl,h⟩
theorem tW {cs vs:List AV} {j:Nat}:(splice cs j vs).map (BA σ)=splice (cs.map (BA σ)) j (vs.map (BA σ)):=by
 simp only[splice,List.map_append,List.map_take,List.map_drop,List.length_map]
theorem oJ (hr:RX σ tm M st) : ∀ {ps:List (Nat × Nat × AP)} {cells:List AV} {K:List AV->Prop},cS tm ps cells K -> ∃ cs,fill (cells.map (BA σ)) (ps.map λ p=>(p.1,p.2.1,st.ev p.2.2))=some (cs.map (BA σ))/\K cs
 | [],cells,K,h=>⟨cells,rfl,h⟩
 | p::r,cells,K,h=>by
  obtain ⟨h0,vs,hc,h⟩:=YL (show fC (ex tm p.2.2) λ vs=>bif Nat.beq vs.length p.2.1 then bif Nat.ble (p.1+p.2.1) cells.length then fL (splice cells p.1 vs) λ cells=>cS tm r cells K else False else False from h);cases hz:Nat.beq vs.length p.2.1<;>simp only[hz,cond_true,cond_false]at h;have hl:Nat.ble (p.1+p.2.1) cells.length=true:=by
   cases hl:Nat.ble (p.1+p.2.1) cells.length
   ·rw[hl]at h;exact h.elim
   ·rfl
  rw[hl]at h;simp only[cond_true,GJ]at h;obtain ⟨cs,h1,h2⟩:=oJ hr h;refine ⟨cs,?_,h2⟩;simp only[List.map_cons,fill,hr.ev rfl h0,OJ hc,List.length_map];rw[if_pos ⟨BK.1 hz,Nat.le_of_ble_eq_true hl⟩,<-tW];exact h1
theorem yD {z:List AV} {ps:List (Nat × Nat × AP)} (hr:RX σ tm M st) (h:XE L tm M b9 K (.build z ps)):BM L tm b9 K (.build z ps) st:=by
 simp only[XE]at h;cases hd:D5 z<;>simp only[hd,cond_true,cond_false]at h;obtain ⟨cs,h1,h2⟩:=oJ hr h;refine BM.val hr (.agg cs) (λ C => ?_) h2;rw[H1 hd]at h1;simp only[c9,h1];rfl
theorem oA : ∀ l:List AP,QD tm l=l.map (ex tm)
 | []=>rfl
 | x::r=>by rw[QD,oA r];rfl
theorem lJ : ∀ {es:List (List AV)},U2 es=true -> ∀ e∈es,D5 e=true
 | e0::r,h,e,he=>by
  simp only[U2]at h;cases h1:D5 e0<;>simp only[h1,cond_true,cond_false]at h
  ·cases h
  ·rcases List.mem_cons.1 he with rfl|he
   ·exact h1
   ·exact lJ h e he
theorem Sx {es:List (List AV)} (h : ∀ e∈es,D5 e=true):(es.map λ cs=>cs.map (BA σ))=es:=by
 conv=>rhs;rw[<-List.map_id es]
 exact List.map_congr_left λ e he=>H1 (h e he)
theorem dP {es:List (List AV)} {K:Nat->Prop} (h:VW es K):K es.length:=by
 unfold VW at h;split at h<;>exact h
theorem jU (hr:RX σ tm M st) {z:Nat} : ∀ {l:List AP} {K:List (List AV)->Prop},aS tm z l K -> ∃ es,l.mapM (λ x=>cellsOf (st.ev x))=some (es.map λ cs=>cs.map (BA σ))/\(∀ e∈es,e.length=z)/\(∀ k,HR k tm=false->IR k es=false)/\K es
 | [],K,h=>⟨[],rfl,(λ e he=>by cases he),λ_ _=>rfl,h⟩
 | x::r,K,h=>by
  obtain ⟨h0,cs,hc,h⟩:=YL (show fC (ex tm x) λ cs=>bif Nat.beq cs.length z then aS tm z r λ es=>K (cs::es) else False from h);cases hz:Nat.beq cs.length z<;>simp only[hz,cond_true,cond_false]at h;obtain ⟨es,h1,h2,h4,h3⟩:=jU hr h;refine ⟨cs::es,?_,λ e he => ?_,λ k hk => ?_,h3⟩
  ·rw[List.mapM_cons,h1,hr.ev rfl h0,OJ hc];rfl
  ·rcases List.mem_cons.1 he with rfl|he
   ·exact BK.1 hz
   ·exact h2 e he
  ·simp only[IR,sK (oB hk x) hc,cond_false,h4 k hk]
theorem evL (hr:RX σ tm M st) {xs:List AP} (h : ∀ v∈QD tm xs,v ≠ .any):xs.map st.ev=(QD tm xs).map (BH σ):=by
 rw[oA]at h ⊢;rw[List.map_map];exact List.map_congr_left λ x hx=>hr.ev rfl (h _ (List.mem_map_of_mem hx))
theorem yC {s z:Nat} {ps:List AP} (hr:RX σ tm M st) (h:XE L tm M b9 K (.c7 s z ps)):BM L tm b9 K (.c7 s z ps) st:=by
 simp only[XE]at h;cases dm:EN s<;>simp only[dm,cond_true,cond_false]at h;obtain ⟨es,g1,g2,g3,h⟩:=jU hr h;obtain ⟨k,h1,h2,h3⟩:=GH (dP h);have key : ∀ c:A7,c.flat->G1 k c=false->c.e8 σ k=⟨z,es.map λ cs=>cs.map (BA σ)⟩->K (.row k 0 z 0 es.length) ((k,s,c)::M)->BM L tm b9 K (.c7 s z ps) st:=by
  intro c hf hc hb hk;refine ⟨.new s (c.e8 σ k) (λ t => .row s t z 0 es.length),_,_,_,λ C => ?_,hk,?_,hr.db h1 h2 c hf hc (λ_=>dm)⟩
  ·simp only[c9,g1,hb]
   rw[if_pos (λ e he=>by obtain ⟨e',iw,rfl⟩:=List.mem_map.1 he;simpa using g2 e' iw)];simp only[List.length_map]
  ·simp only[CB.res,C6,BX]
 cases hd:U2 es<;>simp only[hd,cond_true,cond_false]at h3
 ·exact key (.bs z es) trivial (g3 k h2) rfl h3
 ·exact key (.rw z es) trivial rfl (by simp only[A7.e8];rw[Sx (lJ hd)]) h3
theorem yI {x:AP} {off:Nat} (hr:RX σ tm M st) (h:XE L tm M b9 K (.a6 x off)):BM L tm b9 K (.a6 x off) st:=by
 simp only[XE]at h;split at h
 ·rename_i key t i j e
  exact BM.val hr _ (λ C=>by simp only[c9,hr.ev e (by intro e;cases e),GQ,GP,GR,C6,EB,HS,EZ,G2,HT]) h
 ·rename_i cs e
  rw[GJ]at h;exact BM.val hr _ (λ C=>by simp only[c9,hr.ev e (by intro e;cases e),GQ,GP,GR,C6,EB,HS,EZ,G2,HT]) h
 ·exact h.elim
theorem yJ {x:AP} {off n:Nat} {agg:Bool} (hr:RX σ tm M st) (h:XE L tm M b9 K (.nc x off n agg)):BM L tm b9 K (.nc x off n agg) st:=by
 simp only[XE]at h;split at h
 ·rename_i cs e
  split at h
  ·rename_i ds hp
   rw[GJ]at h;obtain ⟨v,h1,h2⟩:=OV σ h;exact BM.val hr v (λ C=>by simp only[c9,hr.ev e (by intro e;cases e),G2,V6 hp,h1,Option.map_some]) h2
  ·exact h.elim
 ·exact h.elim
theorem yL {arr:Option Nat} {z:Nat} {x i:AP} (hr:RX σ tm M st) (h:XE L tm M b9 K (.a5 arr z x i)):BM L tm b9 K (.a5 arr z x i) st:=by
 simp only[XE]at h;split at h
 ·rename_i kd n e1
  split at h
  ·rename_i len key t i' j e2
   obtain ⟨h1,h2⟩:=h;exact BM.val hr _ (λ C=>by simp only[c9,hr.ev e1 (by intro e;cases e),hr.ev e2 (by intro e;cases e),GQ,GP,GR,C6,EB,HS,EZ,G2,HT];rw[if_pos h1]) h2
  ·rename_i len cs e2
   obtain ⟨h1,h2⟩:=h;rw[GJ]at h2;exact BM.val hr _ (λ C=>by simp only[c9,hr.ev e1 (by intro e;cases e),hr.ev e2 (by intro e;cases e),GQ,GP,GR,C6,EB,HS,EZ,G2,HT];rw[if_pos h1]) h2
  ·rename_i key t z' off len e2
   cases hz:Nat.beq z' z<;>simp only[hz,cond_true,cond_false]at h;obtain ⟨h1,h2⟩:=h;exact BM.val hr _ (λ C=>by simp only[c9,hr.ev e1 (by intro e;cases e),hr.ev e2 (by intro e;cases e),GQ,GP,GR,C6,EB,HS,EZ,G2,HT];rw[if_pos ⟨h1.1,h1.2,BK.1 hz⟩]) h2
  ·rename_i q es e2
   obtain ⟨h1,cs,h2,h3,h4⟩:=h;exact BM.val hr _ (λ C=>by simp only[c9,hr.ev e1 (by intro e;cases e),hr.ev e2 (by intro e;cases e),GQ,GP,GR,C6,EB,HS,EZ,G2,HT,h2];rw[if_pos h1,if_pos h3]) h4
  ·exact h.elim
 ·exact h.elim
theorem yM {len z:Nat} {agg:Bool} {x i:AP} (hr:RX σ tm M st) (h:XE L tm M b9 K (.idx len z agg x i)):BM L tm b9 K (.idx len z agg x i) st:=by
 simp only[XE]at h;split at h
 ·rename_i kd n cs e1 e2
  obtain ⟨h0,h⟩:=h;split at h
  ·rename_i ds hp
   rw[GJ]at h;obtain ⟨v,h1,h2⟩:=OV σ h;exact BM.val hr v (λ C=>by simp only[c9,hr.ev e1 (by intro e;cases e),hr.ev e2 (by intro e;cases e),GQ,GP,GR,C6,EB,HS,EZ,G2,HT,V6 hp,h1,Option.map_some];rw[if_pos h0]) h2
  ·exact h.elim
 ·exact h.elim
theorem TV {s:Nat} {own:AH} : ∀ {b9:List Nat},QQ s b9=true->own.m4 b9 s=own s
 | [],_=>rfl
 | b::r,h=>by
  have hm:PM s (b::r)=false:=by simpa [QQ] using h
  have : ∀ l:List Nat,PM s l=false->own.m4 l s=own s:=by
   intro l;induction l with
   | nil=>intro _;rfl
   | cons b r ih =>
    intro h;simp only[PM]at h;cases hb:Nat.beq s b<;>simp only[hb,cond_true,cond_false]at h
    ·simp only[AH.m4]
     rw[if_neg (FD.1 hb)];exact ih h
    ·cases h
  exact this _ hm
theorem eK {s:Nat} {own:AH} (hs:EN s=true) : ∀ {b9:List Nat},RU b9=true->own.m4 b9 s=own s
 | [],_=>rfl
 | b::r,h=>by
  simp only[RU]at h;cases hb:EN b<;>simp only[hb,cond_true,cond_false]at h
  ·have k9:s≠b:=λ e=>by rw[e,hb]at hs;cases hs
   show (if s=b then _ else own.m4 r s)=own s;rw[if_neg k9];exact eK hs h
  ·cases h
theorem yO {agg:Bool} {n:Nat} {x:AP} (hr:RX σ tm M st) (h:XE L tm M b9 K (.ld agg n x)):BM L tm b9 K (.ld agg n x) st:=by
 simp only[XE]at h;split at h
 ·rename_i key t i j e
  split at h
  ·rename_i s c hm
   have hs:=hr.sat.site _ _ _ hm;split at h
   ·cases hb:QQ s b9<;>simp only[hb,cond_true,cond_false]at h
    have v7:=hr.sat.e8 _ _ _ (DJ hm);rw[hs]at v7;split at h
    ·rename_i cs
     cases hi:Nat.beq i 0<;>simp only[hi,cond_true,cond_false]at h;obtain rfl:=BK.1 hi;split at h
     ·rename_i ds hp
      rw[GJ]at h;obtain ⟨v,h1,h2⟩:=OV σ h;exact BM.val hr v (λ C=>by
       simp only[c9,hr.ev e (by intro e;cases e),EB,AH.pc,AH.get,hs];rw[TV hb,v7];simp only[A7.e8,List.getElem?_cons_zero,V6 hp,h1,Option.map_some]) h2
     ·exact h.elim
    ·rename_i z es
     obtain ⟨cs,ds,g1,g2,h⟩:=h;rw[GJ]at h;cases hd:D5 ds<;>simp only[hd,cond_true,cond_false]at h;obtain ⟨v,h1,h2⟩:=OV σ h;rw[H1 hd]at h1;exact BM.val hr v (λ C=>by
      simp only[c9,hr.ev e (by intro e;cases e),EB,AH.pc,AH.get,hs];rw[TV hb,v7];simp only[A7.e8,g1,g2,h1,Option.map_some]) h2
    ·rename_i z es
     split at h
     ·rename_i cs g1
      split at h
      ·rename_i ds hp
       rw[GJ]at h;obtain ⟨v,h1,h2⟩:=OV σ h;exact BM.val hr v (λ C=>by
        simp only[c9,hr.ev e (by intro e;cases e),EB,AH.pc,AH.get,hs];rw[TV hb,v7];simp only[A7.e8,List.getElem?_map,g1,Option.map_some,V6 hp,h1]) h2
      ·exact h.elim
     ·exact h.elim
    ·rename_i rows
     cases hj:Nat.beq j 0<;>simp only[hj,cond_true,cond_false]at h;cases hn:Nat.beq n 1<;>simp only[hn,cond_true,cond_false]at h;obtain rfl:=BK.1 hj;obtain rfl:=BK.1 hn;obtain ⟨r,g1,h⟩:=h;have fin : ∀ c:AV,(B5 σ key 0 rows)[i]? = some [BA σ c]->nv agg [c] (λ v=>K v M)->BM L tm b9 K (.ld agg 1 x) st:=by
      intro c hc h;obtain ⟨v,h1,h2⟩:=OV σ h;have hp:part [BA σ c] 0 1=some [BA σ c]:=by simp [part]
      exact BM.val hr v (λ C=>by
       simp only[c9,hr.ev e (by intro e;cases e),EB,AH.pc,AH.get,hs];rw[TV hb,v7];simp only[A7.e8,hc,hp];simp only[List.map_cons,List.map_nil]at h1;simp only[h1,Option.map_some]) h2
     split at h
     ·rename_i z es
      exact fin _ (by rw[E3,g1];simp [BA]) h
     ·exact fin _ (by rw[E3,g1];simp [BA]) h
    ·exact h.elim
    ·exact h.elim
   ·rename_i i'
    split at h
    ·rename_i rows
     obtain ⟨z,es,g0,cs,ds,g1,g2,h⟩:=h;rw[GJ]at h;cases hd:D5 ds<;>simp only[hd,cond_true,cond_false]at h;obtain ⟨v,h1,h2⟩:=OV σ h;rw[H1 hd]at h1;have v7:=hr.sat.e8 key (i'+1) (.rw z es) (by simp [b8,hm,g0]);exact BM.val hr v (λ C=>by
      simp only[c9,hr.ev e (by intro e;cases e),EB,AH.pc,AH.get,AH.m4];rw[v7];simp only[A7.e8,g1,g2,h1,Option.map_some]) h2
    ·rename_i rows b r
     cases hb:RU (b::r)<;>simp only[hb,cond_true,cond_false]at h;obtain ⟨z,es,g0,cs,ds,g1,g2,h⟩:=h;rw[GJ]at h;cases hd:D5 ds<;>simp only[hd,cond_true,cond_false]at h;obtain ⟨v,h1,h2⟩:=OV σ h;rw[H1 hd]at h1;have g':b8 M key (i'+1)=some (.rw z es):=by simp [b8,hm,g0]
     have v7:=hr.sat.e8 key (i'+1) (.rw z es) g';have dm:=hr.sat.low key (i'+1) _ g' rfl;exact BM.val hr v (λ C=>by
      simp only[c9,hr.ev e (by intro e;cases e),EB,AH.pc,AH.get];rw[eK dm hb,v7];simp only[A7.e8,g1,g2,h1,Option.map_some]) h2
    ·exact h.elim
  ·exact h.elim
 ·rename_i cs e
  split at h
  ·rename_i ds hp
   rw[GJ]at h;cases hd:D5 ds<;>simp only[hd,cond_true,cond_false]at h;obtain ⟨v,h1,h2⟩:=OV σ h;rw[H1 hd]at h1;exact BM.val hr v (λ C=>by simp only[c9,hr.ev e (by intro e;cases e),HS,hp,h1,Option.map_some]) h2
  ·exact h.elim
 ·exact h.elim
theorem yP {agg:Bool} {n:Nat} {x:AP} (hr:RX σ tm M st) (h:XE L tm M b9 K (.sn agg n x)):BM L tm b9 K (.sn agg n x) st:=by
 simp only[XE]at h;split at h
 ·rename_i cs e
  split at h
  ·rename_i ds hp
   rw[GJ]at h;cases hd:D5 ds<;>simp only[hd,cond_true,cond_false]at h;obtain ⟨v,h1,h2⟩:=OV σ h;rw[H1 hd]at h1;exact BM.val hr v (λ C=>by simp only[c9,hr.ev e (by intro e;cases e),HS,hp,h1,Option.map_some]) h2
  ·exact h.elim
 ·exact h.elim
theorem jF {n:Nat} {x v:AP} (hr:RX σ tm M st) (h:XE L tm M b9 K (.st n x v)):BM L tm b9 K (.st n x v) st:=by
 simp only[XE,gZ]at h;split at h
 ·rename_i key t i j e
  obtain ⟨h0,vs,hc,h5⟩:=YL h;clear h;cases hn:Nat.beq vs.length n<;>simp only[hn,cond_true,cond_false]at h5;have qf:=BK.1 hn;split at h5
  ·rename_i s c hm
   have hs:=hr.sat.site _ _ _ hm;split at h5
   ·have v7:=hr.sat.e8 _ _ _ (DJ hm)
    rw[hs]at v7;split at h5
    ·rename_i cs
     cases hi:Nat.beq i 0<;>simp only[hi,cond_true,cond_false]at h5;obtain rfl:=BK.1 hi;have hl:Nat.ble (j+vs.length) cs.length=true:=by
      cases hl:Nat.ble (j+vs.length) cs.length
      ·rw[hl]at h5;exact h5.elim
      ·rfl
     rw[hl]at h5;simp only[cond_true,GJ]at h5;refine ⟨.bu (.g7 []) (st.own.put s ((st.own s).n6 (σ key 0).2 (some (A7.e8 σ key (.bx (splice cs j vs)))))),σ,_,_,λ C => ?_,h5,rfl,hr.Ib hm trivial _ trivial (λ h=>nomatch h)⟩;simp only[c9,hr.ev e (by intro e;cases e),EB,hr.ev rfl h0,OJ hc,List.length_map];rw[if_pos qf];simp only[AH.kz,AH.get,hs,v7,A7.e8,List.getElem?_cons_zero,List.length_map];rw[if_pos (Nat.le_of_ble_eq_true hl)];simp only[Option.map_some,List.set_cons_zero,tW];have:(splice cs j vs).length=cs.length:=by
      have:=Nat.le_of_ble_eq_true hl
      simp only[splice,List.length_append,List.length_take,List.length_drop];omega
     rw[this]
    ·rename_i z es
     cases hd:D5 vs<;>simp only[hd,cond_true,cond_false]at h5;obtain ⟨cs,g1,g2,h5⟩:=h5;refine ⟨.bu (.g7 []) (st.own.put s ((st.own s).n6 (σ key 0).2 (some (A7.e8 σ key (.rw z (es.set i (splice cs j vs))))))),σ,_,_,λ C => ?_,h5,rfl,hr.Ib hm trivial _ trivial (λ_=>rfl)⟩;simp only[c9,hr.ev e (by intro e;cases e),EB,hr.ev rfl h0,OJ hc,H1 hd];rw[if_pos qf];simp only[AH.kz,AH.get,hs,v7,A7.e8,g1];rw[if_pos g2];rfl
    ·exact h5.elim
    ·rename_i rows
     split at h5
     ·rename_i v3 z m
      cases ib:Nat.beq key v3<;>simp only[ib,cond_true,cond_false]at h5;cases au:I4 key tm<;>simp only[au,cond_true,cond_false]at h5;cases mc:HX key M<;>simp only[mc,cond_true,cond_false]at h5;cases hj:Nat.beq j 0<;>simp only[hj,cond_true,cond_false]at h5;obtain rfl:=BK.1 hj;split at h5
      ·rename_i s2 z' es gf
       cases hz:Nat.beq z z'<;>simp only[hz,cond_true,cond_false]at h5;obtain rfl:=BK.1 hz;rw[I8]at h5;obtain ⟨rfl,hi,h5⟩:=h5;have hlen:(B5 σ key 0 rows)[i]? = some ((B5 σ key 0 rows)[i]'(by rw[E4];exact hi)):=zE _;have fu:((B5 σ key 0 rows)[i]'(by rw[E4];exact hi)).length=1:=by
        have:=E3 (σ:=σ) (k:=key) rows 0 i
        rw[hlen,zE hi]at this;simp only[Option.map_some,Option.some.injEq]at this;rw[this];split<;>rfl
       refine ⟨.bu (.g7 []) (st.own.put s ((st.own s).n6 (σ key 0).2 (some ⟨1,(B5 σ key 0 rows).set i [.row (σ v3 0).1 (σ v3 0).2 z 0 es.length]⟩))),_,_,_,λ C => ?_,h5,rfl,hr.Bz hm (Or.inl rfl) gf (FD.1 ib) au mc hi⟩;simp only[c9,hr.ev e (by intro e;cases e),EB,hr.ev rfl h0,OJ hc,List.length_map];rw[if_pos qf];simp only[AH.kz,AH.get,hs,v7,A7.e8,hlen,List.map_cons,List.map_nil,List.length_cons,List.length_nil,BA];rw[if_pos (by omega)];simp only[Option.map_some];have Gb:splice ((B5 σ key 0 rows)[i]'(by rw[E4];exact hi)) 0 [.row (σ v3 0).1 (σ v3 0).2 z 0 es.length]=[.row (σ v3 0).1 (σ v3 0).2 z 0 es.length]:=by
        simp only[splice,List.take_zero,List.nil_append,List.length_cons,List.length_nil,Nat.zero_add];rw[List.drop_of_length_le (by omega)];rfl
       rw[Gb]
      ·exact h5.elim
     ·rename_i v3 t2 z m
      cases ib:Nat.beq key v3<;>simp only[ib,cond_true,cond_false]at h5;cases hj:Nat.beq j 0<;>simp only[hj,cond_true,cond_false]at h5;obtain rfl:=BK.1 hj;obtain rfl:=BK.1 ib;obtain ⟨z',es,g0,h5⟩:=h5;cases hz:Nat.beq z z'<;>simp only[hz,cond_true,cond_false]at h5;obtain rfl:=BK.1 hz;obtain ⟨⟨rfl,hi⟩,h5⟩:=h5;have q5:A7.e8 σ key (.vw ((List.range rows.length).set i t2) rows)=⟨1,(B5 σ key 0 rows).set i [.row (σ key (t2+1)).1 (σ key (t2+1)).2 z 0 es.length]⟩:=by
       simp only[A7.e8];congr 1;apply List.ext_getElem?;intro p;rw[List.getElem?_map];by_cases hp:i=p
       ·subst hp
        rw[List.getElem?_set_self (by rw[List.length_range];exact hi),List.getElem?_set_self (by rw[E4];exact hi),Option.map_some,E3,g0];simp
       ·rw[List.getElem?_set_ne hp,List.getElem?_set_ne hp,E3]
        by_cases Cq:p<rows.length
        ·rw[List.getElem?_range Cq,Option.map_some,E3,zE Cq,Option.map_some,Option.getD_some]
        ·rw[List.getElem?_eq_none (by rw[List.length_range];omega),List.getElem?_eq_none (by omega)];rfl
      have hv:=hr.view (w:=(List.range rows.length).set i t2) hm (Or.inl rfl);have hlen:(B5 σ key 0 rows)[i]? = some ((B5 σ key 0 rows)[i]'(by rw[E4];exact hi)):=zE _;have fu:((B5 σ key 0 rows)[i]'(by rw[E4];exact hi)).length=1:=by
       have:=E3 (σ:=σ) (k:=key) rows 0 i
       rw[hlen,zE hi]at this;simp only[Option.map_some,Option.some.injEq]at this;rw[this];split<;>rfl
      refine ⟨.bu (.g7 []) (st.own.put s ((st.own s).n6 (σ key 0).2 (some (A7.e8 σ key (.vw ((List.range rows.length).set i t2) rows))))),_,_,_,λ C => ?_,h5,rfl,hv⟩;rw[q5];simp only[c9,hr.ev e (by intro e;cases e),EB,hr.ev rfl h0,OJ hc,List.length_map];rw[if_pos qf];simp only[AH.kz,AH.get,hs,v7,A7.e8,hlen,List.map_cons,List.map_nil,List.length_cons,List.length_nil,BA];rw[if_pos (by omega)];simp only[Option.map_some];have Gb:splice ((B5 σ key 0 rows)[i]'(by rw[E4];exact hi)) 0 [.row (σ key (t2+1)).1 (σ key (t2+1)).2 z 0 es.length]=[.row (σ key (t2+1)).1 (σ key (t2+1)).2 z 0 es.length]:=by
       simp only[splice,List.take_zero,List.nil_append,List.length_cons,List.length_nil,Nat.zero_add];rw[List.drop_of_length_le (by omega)];rfl
      rw[Gb]
     ·exact h5.elim
    ·rename_i i0 v0 rows
     split at h5
     ·rename_i v3 z m
      cases ib:Nat.beq key v3<;>simp only[ib,cond_true,cond_false]at h5;cases au:I4 key tm<;>simp only[au,cond_true,cond_false]at h5;cases mc:HX key M<;>simp only[mc,cond_true,cond_false]at h5;cases hj:Nat.beq j 0<;>simp only[hj,cond_true,cond_false]at h5;obtain rfl:=BK.1 hj;split at h5
      ·rename_i s2 z' es gf
       cases hz:Nat.beq z z'<;>simp only[hz,cond_true,cond_false]at h5;obtain rfl:=BK.1 hz;rw[I8]at h5;obtain ⟨⟨rfl,rfl⟩,hi,h5⟩:=h5;refine ⟨.bu (.g7 []) (st.own.put s ((st.own s).n6 (σ key 0).2 (some ⟨1,(B5 σ key 0 rows).set i [.row (σ v3 0).1 (σ v3 0).2 z 0 es.length]⟩))),_,_,_,λ C => ?_,h5,rfl,hr.Bz hm (Or.inr ⟨v0,rfl⟩) gf (FD.1 ib) au mc hi⟩;simp only[c9,hr.ev e (by intro e;cases e),EB,hr.ev rfl h0,OJ hc,List.length_map];rw[if_pos qf];simp only[AH.kz,AH.get,hs,v7,A7.e8,List.getElem?_set_self (show i<(B5 σ key 0 rows).length by rw[E4];exact hi),List.map_cons,List.map_nil,List.length_cons,List.length_nil,BA];rw[if_pos (by omega)];simp only[Option.map_some,List.set_set];rfl
      ·exact h5.elim
     ·exact h5.elim
    ·rename_i w rows
     split at h5
     ·rename_i v3 t2 z m
      cases ib:Nat.beq key v3<;>simp only[ib,cond_true,cond_false]at h5;cases hj:Nat.beq j 0<;>simp only[hj,cond_true,cond_false]at h5;obtain rfl:=BK.1 hj;obtain rfl:=BK.1 ib;obtain ⟨z',es,g0,h5⟩:=h5;cases hz:Nat.beq z z'<;>simp only[hz,cond_true,cond_false]at h5;obtain rfl:=BK.1 hz;obtain ⟨⟨rfl,hi,hwr⟩,h5⟩:=h5;have q5:A7.e8 σ key (.vw (w.set i t2) rows)=⟨1,(w.map λ t=>((B5 σ key 0 rows)[t]?).getD []).set i [.row (σ key (t2+1)).1 (σ key (t2+1)).2 z 0 es.length]⟩:=by
       simp only[A7.e8];congr 1;apply List.ext_getElem?;intro p;rw[List.getElem?_map];by_cases hp:i=p
       ·subst hp
        rw[List.getElem?_set_self hi,List.getElem?_set_self (by rw[List.length_map];exact hi),Option.map_some,E3,g0];simp
       ·rw[List.getElem?_set_ne hp,List.getElem?_set_ne hp,List.getElem?_map]
      have hv:=hr.view (w:=w.set i t2) hm (Or.inr ⟨w,rfl⟩);have hlen:(w.map λ t=>((B5 σ key 0 rows)[t]?).getD [])[i]? = some ((w.map λ t=>((B5 σ key 0 rows)[t]?).getD [])[i]'(by rw[List.length_map];exact hi)):=zE _;have fu:((w.map λ t=>((B5 σ key 0 rows)[t]?).getD [])[i]'(by rw[List.length_map];exact hi)).length=1:=by
       rw[List.getElem_map];have k7:=hwr w[i] (List.getElem_mem hi);rw[E3,zE k7];simp only[Option.map_some,Option.getD_some];split<;>rfl
      refine ⟨.bu (.g7 []) (st.own.put s ((st.own s).n6 (σ key 0).2 (some (A7.e8 σ key (.vw (w.set i t2) rows))))),_,_,_,λ C => ?_,h5,rfl,hv⟩;rw[q5];simp only[c9,hr.ev e (by intro e;cases e),EB,hr.ev rfl h0,OJ hc,List.length_map];rw[if_pos qf];simp only[AH.kz,AH.get,hs,v7,A7.e8,hlen,List.map_cons,List.map_nil,List.length_cons,List.length_nil,BA];rw[if_pos (by omega)];simp only[Option.map_some];have Gb:splice ((w.map λ t=>((B5 σ key 0 rows)[t]?).getD [])[i]'(by rw[List.length_map];exact hi)) 0 [.row (σ key (t2+1)).1 (σ key (t2+1)).2 z 0 es.length]=[.row (σ key (t2+1)).1 (σ key (t2+1)).2 z 0 es.length]:=by
       simp only[splice,List.take_zero,List.nil_append,List.length_cons,List.length_nil,Nat.zero_add];rw[List.drop_of_length_le (by omega)];rfl
      rw[Gb]
     ·exact h5.elim
   ·rename_i i'
    split at h5
    ·rename_i rows
     cases hd:D5 vs<;>simp only[hd,cond_true,cond_false]at h5;obtain ⟨z,es,g0,cs,g1,g2,g3,h5⟩:=h5;have v7:=hr.sat.e8 key (i'+1) (.rw z es) (by simp [b8,hm,g0]);refine ⟨.bu (.g7 []) (st.own.put (σ key (i'+1)).1 ((st.own (σ key (i'+1)).1).n6 (σ key (i'+1)).2 (some ⟨z,es.set i (splice cs j vs)⟩))),σ,_,_,λ C => ?_,h5,rfl,hr.Nj hm g0 g3⟩;simp only[c9,hr.ev e (by intro e;cases e),EB,hr.ev rfl h0,OJ hc,H1 hd];rw[if_pos qf];simp only[AH.kz,AH.get,v7,A7.e8,g1];rw[if_pos g2];rfl
    ·exact h5.elim
  ·exact h5.elim
 ·exact h.elim
theorem yR {s z bytes:Nat} {zero:List AV} {a c:AP} (hr:RX σ tm M st) (h:XE L tm M b9 K (.mk s z bytes zero a c)):BM L tm b9 K (.mk s z bytes zero a c) st:=by
 simp only[XE]at h;split at h
 ·rename_i k1 p k2 q e1 e2
  cases hz:Nat.beq zero.length z<;>simp only[hz,cond_true,cond_false]at h;cases hd:D5 zero<;>simp only[hd,cond_true,cond_false]at h;split at h
  ·cases dm:EN s<;>simp only[dm,cond_true,cond_false]at h
   obtain ⟨⟨g1,g2,g3,g4⟩,h⟩:=h;obtain ⟨k,h1,h2,h3⟩:=GH h;have df:A7.flat (.mx (List.replicate p.toNat none)):=by
    intro i x hx;have:=List.getElem?_replicate (n:=p.toNat) (a:=(none:Option (Nat × List (List AV)))) (i:=i)
    rw[this]at hx;split at hx<;>cases hx
   have ij:z=1:=(BK.1 hz).symm;have fi:A7.e8 σ k (.mx (List.replicate p.toNat none))=⟨z,List.replicate p.toNat [.nil]⟩:=by
    simp only[A7.e8,ij];congr 1;have : ∀ (n i:Nat),B5 σ k i (List.replicate n none)=List.replicate n [AV.nil]:=by
     intro n;induction n with
     | zero=>intro i;rfl
     | succ n ih=>intro i;rw[List.replicate_succ,List.replicate_succ,B5,ih]
    exact this _ _
   refine ⟨.new s (A7.e8 σ k (.mx (List.replicate p.toNat none))) (λ t => .row s t z 0 p.toNat),_,_,_,λ C => ?_,h3,?_,hr.db h1 h2 (.mx _) df rfl (λ_=>dm)⟩
   ·simp only[c9,hr.ev e1 (by intro e;cases e),hr.ev e2 (by intro e;cases e),GQ,fi]
    rw[if_pos ⟨g1,g2,g3,g4,BK.1 hz⟩]
   ·simp only[CB.res,C6,BX]
  ·cases dm:EN s<;>simp only[dm,cond_true,cond_false]at h
   obtain ⟨⟨g1,g2,g3,g4⟩,h⟩:=h;obtain ⟨k,h1,h2,h3⟩:=GH h;refine ⟨.new s ⟨z,List.replicate p.toNat zero⟩ (λ t => .row s t z 0 p.toNat),_,_,_,λ C => ?_,h3,?_,hr.db h1 h2 (.rw z _) trivial rfl (λ_=>dm)⟩
   ·simp only[c9,hr.ev e1 (by intro e;cases e),hr.ev e2 (by intro e;cases e),GQ]
    rw[if_pos ⟨g1,g2,g3,g4,BK.1 hz⟩]
   ·simp only[CB.res,C6,BX]
 ·exact h.elim
theorem oC {v:AV} {K:AV->Prop} (h:f2 v K):v ≠ .any/\BH σ v=BV σ v/\K v:=by
 cases v<;>simp only[f2,GJ]at h<;>first|exact h.elim|exact ⟨(by intro e;cases e),rfl,h⟩
theorem pQ : ∀ (vs:List AV) (i:Nat),xu vs i ≠ .any->vs[i]? = some (xu vs i)
 | [],_,h=>absurd rfl h
 | _::_,0,_=>rfl
 | _::r,i+1,h=>pQ r i h
theorem yH {x:AP} {i:Nat} (hr:RX σ tm M st) (h:XE L tm M b9 K (.ext x i)):BM L tm b9 K (.ext x i) st:=by
 simp only[XE]at h;split at h
 ·rename_i vs e
  obtain ⟨h1,h2,h3⟩:=oC (σ:=σ) h;refine BM.val hr _ (λ C => ?_) h3;simp only[c9,hr.ev e (by intro e;cases e),HT,List.getElem?_map,pQ vs i h1,Option.map_some,h2]
 ·exact h.elim
theorem yQ {x:AP} (hr:RX σ tm M st) (h:XE L tm M b9 K (.len x)):BM L tm b9 K (.len x) st:=by
 simp only[XE]at h;split at h
 ·rename_i q es e
  exact BM.val hr _ (λ C=>by simp only[c9,hr.ev e (by intro e;cases e),GR,lenOf];rfl) h
 ·rename_i e
  exact BM.val hr _ (λ C=>by simp only[c9,hr.ev e (by intro e;cases e),EZ,lenOf];rfl) h
 ·rename_i e
  exact BM.val hr _ (λ C=>by simp only[c9,hr.ev e (by intro e;cases e),C6,lenOf];rfl) h
 ·exact h.elim
theorem qM {mx:Bool} {k:IntKind} {K:AV->Prop} : ∀ {l:List AV} {a:Int},RT mx k K a l -> ∃ n,J4 mx (.int k a) l=some (.int k n)/\K (.int k n)/\(∀ v∈l,v ≠ .any/\BH σ v=v)
 | [],a,h=>⟨a,rfl,h,λ v hv=>by cases hv⟩
 | v::r,a,h=>by
  cases v with
  | int k' b =>
   have h:(bif mx then AF (a<b) (b<=a) (RT mx k K b r) (RT mx k K a r) else AF (b<a) (a<=b) (RT mx k K b r) (RT mx k K a r)):=h;have fin : ∀ c:Int,PN mx (.int k a) (.int k' b)=some (.int k c)->RT mx k K c r -> ∃ n,J4 mx (.int k a) (.int k' b::r)=some (.int k n)/\K (.int k n)/\(∀ v∈AV.int k' b::r,v ≠ .any/\BH σ v=v):=by
    intro c hc hx;obtain ⟨n,h1,h2,h3⟩:=qM hx;refine ⟨n,by simp only[J4,hc,h1],h2,λ v hv => ?_⟩;rcases List.mem_cons.1 hv with rfl|hv
    ·exact ⟨(by intro e;cases e),rfl⟩
    ·exact h3 v hv
   cases mx
   ·simp only[cond_false]at h
    by_cases hc:b<a
    ·exact fin b (by simp [PN,hc]) (h.1 hc)
    ·exact fin a (by simp [PN,hc]) (h.2 (by omega))
   ·simp only[cond_true]at h
    by_cases hc:a<b
    ·exact fin b (by simp [PN,hc]) (h.1 hc)
    ·exact fin a (by simp [PN,hc]) (h.2 (by omega))
  | _=>exact (h:False).elim
theorem yU {mx:Bool} {xs:List AP} (hr:RX σ tm M st) (h:XE L tm M b9 K (.mm mx xs)):BM L tm b9 K (.mm mx xs) st:=by
 simp only[XE]at h;split at h
 ·rename_i k a r e
  obtain ⟨n,h1,h2,h3⟩:=qM (σ:=σ) h;refine BM.val hr (.int k n) (λ C => ?_) h2;have hx : ∀ v∈QD tm xs,v ≠ .any:=by
   rw[e];intro v hv;rcases List.mem_cons.1 hv with rfl|hv
   ·intro e;cases e
   ·exact (h3 v hv).1
  have hm:(QD tm xs).map (BH σ) = .int k a::r:=by
   rw[e,List.map_cons];congr 1;conv=>rhs;rw[<-List.map_id r]
   exact List.map_congr_left λ v hv=>(h3 v hv).2
  simp only[c9];rw[show xs.map st.ev = .int k a::r from (evL hr hx).trans hm];simp only[h1,Option.map_some,GQ]
 ·exact h.elim
theorem Aga (hr:RX σ tm M st) {k t:Nat} {K:Nat->List (List AV)->Prop} (h:fZ M k t K) : ∃ z es,(st.own (σ k t).1).e8 (σ k t).2=some ⟨z,es⟩/\K z es:=by
 unfold fZ at h;split at h
 ·rename_i s c hm
  split at h
  ·split at h
   ·exact ⟨_,_,hr.sat.e8 _ _ _ (DJ hm),h⟩
   ·exact h.elim
  ·rename_i i
   split at h
   ·rename_i rows
    obtain ⟨z,es,g,h⟩:=h;exact ⟨z,es,hr.sat.e8 k (i+1) (.rw z es) (by simp [b8,hm,g]),h⟩
   ·exact h.elim
 ·exact h.elim
theorem AgK {own l8:AH} {s t i j:Nat} {vs:List AV} (h:own.kz s t i j vs=some l8):own.put s (l8 s)=l8:=by
 unfold AH.kz at h;cases hg:own.get s t with
 | none=>simp [hg]at h
 | some b =>
  simp only[hg]at h;cases he:b.es[i]? with
  | none=>simp [he]at h
  | some cs =>
   simp only[he]at h;split at h
   ·obtain rfl:=Option.some.inj h
    rw[AH.j5]
   ·cases h
theorem zA {s n:Nat} {x v:AP} (hr:RX σ tm M st) (h:XE L tm M b9 K (.na s n x v)):BM L tm b9 K (.na s n x v) st:=by
 simp only[XE]at h;split at h
 ·rename_i key i j e1
  split at h
  ·rename_i s' c hm
   cases hb:Nat.beq s' s<;>simp only[hb,cond_true,cond_false]at h;obtain rfl:=BK.1 hb;have ff:=hr.sat.site _ _ _ hm;obtain ⟨E,σ',v',M',h1,h2,h3,h4⟩:=jF (b9:=b9) (L:=L) hr (show XE L tm M b9 K (.st n x v) from h);have w7:=hr.ev e1 (by intro e;cases e);rw[EB,ff]at w7;have key : ∀ vs,cellsOf (st.ev v)=some vs->vs.length=n -> ∃ o',st.own.kz s' (σ key 0).2 i j vs=some o'/\E = .bu (.g7 []) o':=λ vs gj hn=>by
    have:=h1 0
    simp only[c9,w7,gj]at this;rw[if_pos hn,Option.map_eq_some_iff]at this;obtain ⟨o',a1,a2⟩:=this;exact ⟨o',a1,a2.symm⟩
   cases gj:cellsOf (st.ev v) with
   | none=>have:=h1 0;simp [c9,w7,gj]at this
   | some vs =>
    by_cases hn:vs.length=n
    ·obtain ⟨o',a1,rfl⟩:=key vs gj hn
     refine ⟨.n6 s' (o' s'),σ',v',M',λ C => ?_,h2,h3,?_⟩
     ·simp only[c9,w7,gj]
      rw[if_pos ⟨trivial,hn⟩,a1];rfl
     ·have e2:(CB.res st.own (.n6 s' (o' s'))).2=o':=AgK a1
      rw[e2];exact h4
    ·have:=h1 0
     simp only[c9,w7,gj]at this;rw[if_neg hn]at this;cases this
  ·exact h.elim
 ·exact h.elim
theorem yN {ne:Bool} {x:AP} (hr:RX σ tm M st) (h:XE L tm M b9 K (.rh ne x)):BM L tm b9 K (.rh ne x) st:=by
 simp only[XE]at h;split at h
 ·rename_i e1
  rw[PI]at h;exact BM.val hr _ (λ C=>by simp only[c9,hr.ev e1 (by intro e;cases e),EZ,GP]) h
 ·rename_i b e1
  rw[PI]at h;exact BM.val hr _ (λ C=>by simp only[c9,hr.ev e1 (by intro e;cases e),Agb,GP]) h
 ·rename_i q es e1
  obtain ⟨h0,h⟩:=h;rw[PI]at h;cases es with
  | nil=>exact absurd rfl h0
  | cons e es=>exact BM.val hr _ (λ C=>by simp only[c9,hr.ev e1 (by intro e;cases e),GR,GP]) h
 ·rename_i s t z o n e1
  obtain ⟨h0,h⟩:=h;rw[PI]at h;cases n with
  | zero=>exact absurd h0 (by omega)
  | succ n=>exact BM.val hr _ (λ C=>by simp only[c9,hr.ev e1 (by intro e;cases e),C6,GP]) h
 ·exact h.elim
theorem yW {x:AP} (hr:RX σ tm M st) (h:XE L tm M b9 K (.su x)):BM L tm b9 K (.su x) st:=by
 simp only[XE]at h;split at h
 ·rename_i key t i j e
  exact BM.val hr _ (λ C=>by simp only[c9,hr.ev e (by intro e;cases e),EB]) h
 ·exact h.elim
theorem yE {x:AP} (hr:RX σ tm M st) (h:XE L tm M b9 K (.er x)):BM L tm b9 K (.er x) st:=by
 simp only[XE]at h;split at h
 ·rename_i e
  exact BM.val hr _ (λ C=>by simp only[c9,hr.ev e (by intro e;cases e),EZ];rfl) h
 ·exact h.elim
theorem xY {s z bytes:Nat} {x y:AP} (hr:RX σ tm M st) (h:XE L tm M b9 K (.nb s z bytes x y)):BM L tm b9 K (.nb s z bytes x y) st:=by
 simp only[XE]at h;split at h
 ·rename_i k n e1 e2
  cases dm:EN s<;>simp only[dm,cond_true,cond_false]at h;obtain ⟨⟨g1,g2,g3⟩,h⟩:=h;obtain ⟨k,h1,h2,h3⟩:=GH h;refine ⟨.new s ⟨z,[]⟩ (λ t => .row s t z 0 n.toNat),_,_,_,λ C => ?_,h3,?_,hr.db h1 h2 (.rw z []) trivial rfl (λ_=>dm)⟩
  ·simp only[c9,hr.ev e1 (by intro e;cases e),hr.ev e2 (by intro e;cases e),GQ,EZ]
   rw[if_pos ⟨g1,g2,g3⟩]
  ·simp only[CB.res,C6,BX]
 ·exact h.elim
theorem xT {s z bytes:Nat} {x y:AP} (hr:RX σ tm M st) (h:XE L tm M b9 K (.nw s z bytes x y)):BM L tm b9 K (.nw s z bytes x y) st:=by
 simp only[XE]at h;split at h
 ·rename_i q ys e1 e2
  cases dm:EN s<;>simp only[dm,cond_true,cond_false]at h;obtain ⟨g1,g2,g3,g4,h⟩:=h;obtain ⟨k,h1,h2,h3⟩:=GH h;refine ⟨.new s ⟨z,ys⟩ (λ t => .row s t z 0 ys.length),_,_,_,λ C => ?_,h3,?_,hr.db h1 h2 (.rw z ys) trivial rfl (λ_=>dm)⟩
  ·simp only[c9,hr.ev e1 (by intro e;cases e),hr.ev e2 (by intro e;cases e),EZ,GR]
   rw[if_pos ⟨g1,g4,g2,g3⟩]
  ·simp only[CB.res,C6,BX]
 ·exact h.elim
theorem yY {tb:List Nat} {x:AP} (hr:RX σ tm M st) (h:XE L tm M b9 K (.fy tb x)):BM L tm b9 K (.fy tb x) st:=by
 simp only[XE]at h;split at h
 ·rename_i k n e1
  obtain ⟨h0,v,h1,h2⟩:=h;exact BM.val hr _ (λ C=>by simp only[c9,hr.ev e1 (by intro e;cases e),GQ,h1];rw[if_pos h0]) h2
 ·exact h.elim
theorem Adn {v:AV} {K:AV->Prop} (h:fF v K):v ≠ .any/\GM (BH σ v)=some (BA σ v)/\K v:=by
 cases v<;>first|exact (h:False).elim|exact ⟨(by intro e;cases e),rfl,h⟩
theorem qU (hr:RX σ tm M st) : ∀ {l:List AP} {K:List AV->Prop},eH tm l K -> ∃ cs,l.mapM (λ x=>GM (st.ev x))=some (cs.map (BA σ))/\K cs
 | [],K,h=>⟨[],rfl,h⟩
 | x::r,K,h=>by
  obtain ⟨h0,hc,h⟩:=Adn (σ:=σ) (show fF (ex tm x) λ v=>eH tm r λ cs=>K (v::cs) from h);obtain ⟨cs,h1,h2⟩:=qU hr h;refine ⟨ex tm x::cs,?_,h2⟩;rw[List.mapM_cons,h1,hr.ev rfl h0,hc];rfl
theorem yT {p:Bool} {f:Nat} {xs:List AP} (hr:RX σ tm M st) (h:XE L tm M b9 K (.pd p f xs)):BM L tm b9 K (.pd p f xs) st:=by
 simp only[XE]at h;obtain ⟨cs,h1,h2⟩:=qU hr h;exact BM.val hr _ (λ C=>by simp only[c9,h1,Option.map_some,WH,List.isEmpty_map];rfl) h2
theorem yS {f:Nat} {x:AP} (hr:RX σ tm M st) (h:XE L tm M b9 K (.qg f x)):BM L tm b9 K (.qg f x) st:=by
 simp only[XE]at h;split at h
 ·rename_i c cs e1
  exact BM.val hr _ (λ C=>by simp only[c9,hr.ev e1 (by intro e;cases e),G2,WH,List.map_cons];rfl) h
 ·exact h.elim
theorem mQ (hr:RX σ tm M st) {v:AV} {K:List (List AV)->Prop} (h:U5 M v K):v ≠ .any /\ ∃ es,EA st.own (BH σ v)=some es/\K es:=by
 cases v with
 | sl q es=>exact ⟨(by intro e;cases e),_,rfl,h⟩
 | nil=>exact ⟨(by intro e;cases e),_,rfl,h⟩
 | cj v =>
  cases v with
  | bool b=>exact ⟨(by intro e;cases e),_,rfl,h⟩
  | _=>exact (h:False).elim
 | row key t z off len =>
  simp only[U5]at h;obtain ⟨z',es,g,h⟩:=Aga hr h;cases hz:Nat.beq z z'<;>simp only[hz,cond_true,cond_false]at h;obtain rfl:=BK.1 hz;refine ⟨(by intro e;cases e),_,?_,h.2⟩;simp only[C6,EA,AH.get,g];rw[if_pos ⟨h.1,trivial⟩]
 | _=>exact (h:False).elim
theorem eI (hr:RX σ tm M st) {o:Option AP} {K:Option Int->Prop} (h:Y3 tm o K):(o=none/\K none) \/ ∃ x k n,o=some x/\st.ev x = .int k n/\K (some n):=by
 unfold Y3 at h;split at h
 ·exact Or.inl ⟨rfl,h⟩
 ·split at h
  ·rename_i e
   exact Or.inr ⟨_,_,_,rfl,hr.ev e (by intro e;cases e),h⟩
  ·exact h.elim
theorem yZ {z:Nat} {x:AP} {lo hi:Option AP} (hr:RX σ tm M st) (h:XE L tm M b9 K (.fg z x lo hi)):BM L tm b9 K (.fg z x lo hi) st:=by
 simp only[XE]at h;have go : ∀ (a b:Option Int),(match ex tm x with
   | .sl l es=>B9 z es a b λ es=>K (.sl l es) M
   | .row key t z' off len=>bif Nat.beq z' z then BO a b len λ a h=>K (.row key t z (off+a) (h-a)) M else False
   | .nil=>(match a,b with
    | none,none=>K .nil M
    | some a,none=>AM (a=0) (K .nil M)
    | none,some h=>AM (h=0) (K .nil M)
    | some a,some h=>AM (a=0/\h=0) (K .nil M))
   | _=>False)->(lo=none/\a=none \/ ∃ y k n,lo=some y/\st.ev y = .int k n/\a=some n)->(hi=none/\b=none \/ ∃ y k n,hi=some y/\st.ev y = .int k n/\b=some n)->BM L tm b9 K (.fg z x lo hi) st:=by
  intro a b h ha hb;split at h
  ·rename_i q es e
   obtain ⟨g1,a',h',g2,g3,g4,h⟩:=h;refine BM.val hr _ (λ C => ?_) h;rcases ha with ⟨rfl,rfl⟩|⟨y,k,n,rfl,e1,rfl⟩<;>rcases hb with ⟨rfl,rfl⟩|⟨y',k',n',rfl,e2,rfl⟩<;>try simp only at g2 g3<;>simp only[c9,hr.ev e (by intro e;cases e),GR, *]<;>simp_all
  ·rename_i key t z' off len e
   cases hz:Nat.beq z' z<;>simp only[hz,cond_true,cond_false]at h;obtain rfl:=BK.1 hz;obtain ⟨a',h',g2,g3,g4,h⟩:=h;refine BM.val hr _ (λ C => ?_) h;rcases ha with ⟨rfl,rfl⟩|⟨y,k,n,rfl,e1,rfl⟩<;>rcases hb with ⟨rfl,rfl⟩|⟨y',k',n',rfl,e2,rfl⟩<;>try simp only at g2 g3<;>simp only[c9,hr.ev e (by intro e;cases e),C6, *]<;>simp_all
  ·rename_i e
   rcases ha with ⟨rfl,rfl⟩|⟨y,k,n,rfl,e1,rfl⟩<;>rcases hb with ⟨rfl,rfl⟩|⟨y',k',n',rfl,e2,rfl⟩<;>simp only at h
   ·exact BM.val hr .nil (λ C=>by simp only[c9,hr.ev e (by intro e;cases e),EZ]) h
   ·exact BM.val hr .nil (λ C=>by simp only[c9,hr.ev e (by intro e;cases e),EZ,e2,h.1,if_true]) h.2
   ·exact BM.val hr .nil (λ C=>by simp only[c9,hr.ev e (by intro e;cases e),EZ,e1,h.1,if_true]) h.2
   ·exact BM.val hr .nil (λ C=>by simp only[c9,hr.ev e (by intro e;cases e),EZ,e1,e2,h.1.1,h.1.2,if_true]) h.2
  ·exact h.elim
 rcases eI hr h with ⟨h1,h⟩|⟨y,k,n,h1,h2,h⟩
 ·rcases eI hr h with ⟨g1,h⟩|⟨y,k,n,g1,g2,h⟩
  ·exact go _ _ h (Or.inl ⟨h1,rfl⟩) (Or.inl ⟨g1,rfl⟩)
  ·exact go _ _ h (Or.inl ⟨h1,rfl⟩) (Or.inr ⟨_,_,_,g1,g2,rfl⟩)
 ·rcases eI hr h with ⟨g1,h⟩|⟨y',k',n',g1,g2,h⟩
  ·exact go _ _ h (Or.inr ⟨_,_,_,h1,h2,rfl⟩) (Or.inl ⟨g1,rfl⟩)
  ·exact go _ _ h (Or.inr ⟨_,_,_,h1,h2,rfl⟩) (Or.inr ⟨_,_,_,g1,g2,rfl⟩)
theorem WE {s key:Nat} : ∀ {M:Mem},GO s M=false->GO s (n8 key M)=false
 | [],_=>rfl
 | (i,s0,c0)::r,h=>by
  simp only[GO]at h;cases q0:Nat.beq s i<;>simp only[q0,cond_true,cond_false]at h
  ·cases q1:G1 s c0<;>simp only[q1,cond_true,cond_false]at h
   ·simp only[n8]
    cases Nat.beq key i
    ·simp only[cond_false,GO,q0,q1,WE h]
    ·simp only[cond_true,WE h]
   ·cases h
  ·cases h
theorem xV {s z bytes:Nat} {x y:AP} (hr:RX σ tm M st) (h:U5 M (ex tm y) λ ys=>match ex tm x with
   | .row key 0 z' off len=>bif Nat.beq off 0 then bif Nat.beq z' z then (match c6 M key with
    | some (s',.rw ax es)=>bif Nat.beq ax z then fM (n8 key M) λ M'=>(BS es len ys z bytes λ es' n=>FG s tm M λ k=>K (.row k 0 z 0 n) ((k,s',.rw z es')::M')) else False
    | _=>False) else False else False
   | .row key (i+1) z' off len=>bif Nat.beq off 0 then bif Nat.beq z' z then (match c6 M key with
    | some (sk,.mx rows)=>fM (n8 key M) λ M'=>BG rows i λ ax es=>bif Nat.beq ax z then (BS es len ys z bytes λ es' n => ∀ s' v,FG s tm M λ k=>K (.row k 0 z 0 n) ((k,s',.rw z es')::(key,sk,.hx i v (rows.set i none))::M')) else False
    | _=>False) else False else False
   | .nil=>bif EN s then B7 ys z bytes λ es n=>FG s tm M λ k=>K (.row k 0 z 0 n) ((k,s,.rw z es)::M) else False
   | _=>False):BM L tm b9 K (.app s z bytes x y) st:=by
 obtain ⟨h0,ys,hy,h⟩:=mQ hr h;have rf:EA st.own (st.ev y)=some ys:=by rw[hr.ev rfl h0];exact hy
 split at h
 ·rename_i key z' off len e
  cases ho:Nat.beq off 0<;>simp only[ho,cond_true,cond_false]at h;cases hz:Nat.beq z' z<;>simp only[hz,cond_true,cond_false]at h;obtain rfl:=BK.1 ho;obtain rfl:=BK.1 hz;split at h
  ·rename_i s' ax es hm
   cases nq:Nat.beq ax z'<;>simp only[nq,cond_true,cond_false]at h;obtain rfl:=BK.1 nq;rw[I8]at h;obtain ⟨g1,g2,g3,g4,h⟩:=h;obtain ⟨k,h1,h2,h3⟩:=GH h;have hs:=hr.sat.site _ _ _ hm;have v7:=hr.sat.e8 _ _ _ (DJ hm);have hn:=(hr.kill hm).db (s:=k) (q:=s') (WE h1) h2 (.rw ax (es.take len++ys)) trivial rfl (λ_=>by have:=hr.sat.low _ _ _ (DJ hm) rfl;rwa [hs]at this);have te:(st.own.put s' ((st.own s').n6 (σ key 0).2 none)).g9 s'=st.own.g9 s':=by simp [AH.g9,AH.j5,CD.n6]
   simp only[AH.j5,AH.ik,te]at hn;refine ⟨.bu (.row s' (st.own.g9 s') ax 0 (len+ys.length)) (st.own.put s' (((st.own s').n6 (σ key 0).2 none).new ⟨ax,es.take len++ys⟩)),_,_,_,λ C => ?_,h3,?_,hn⟩
   ·rw[hs]at v7
    simp only[c9,rf,hr.ev e (by intro e;cases e),C6,AH.get,hs,v7,A7.e8];rw[if_pos g2,if_pos ⟨trivial,trivial,g1,g3,g4⟩]
   ·simp only[CB.res,C6,BX]
  ·exact h.elim
 ·rename_i key i z' off len e
  cases ho:Nat.beq off 0<;>simp only[ho,cond_true,cond_false]at h;cases hz:Nat.beq z' z<;>simp only[hz,cond_true,cond_false]at h;obtain rfl:=BK.1 ho;obtain rfl:=BK.1 hz;split at h
  ·rename_i sk rows hm
   rw[I8]at h;obtain ⟨ax,es,g0,h⟩:=h;cases nq:Nat.beq ax z'<;>simp only[nq,cond_true,cond_false]at h;obtain rfl:=BK.1 nq;obtain ⟨g1,g2,g3,g4,h⟩:=h;have h:=h (σ key (i+1)).1 (.row (σ key (i+1)).1 (σ key (i+1)).2 ax 0 es.length);obtain ⟨k,h1,h2,h3⟩:=GH h;have v7:=hr.sat.e8 key (i+1) (.rw ax es) (by simp [b8,hm,g0]);have hn:=hr.Ig (s:=k) (es':=es.take len++ys) hm g0 h1 h2;refine ⟨.bu (.row (σ key (i+1)).1 (st.own.g9 (σ key (i+1)).1) ax 0 (len+ys.length)) (st.own.put (σ key (i+1)).1 (((st.own (σ key (i+1)).1).n6 (σ key (i+1)).2 none).new ⟨ax,es.take len++ys⟩)),_,_,_,λ C => ?_,h3,?_,hn⟩
   ·simp only[c9,rf,hr.ev e (by intro e;cases e),C6,AH.get,v7,A7.e8]
    rw[if_pos g2,if_pos ⟨trivial,trivial,g1,g3,g4⟩]
   ·simp only[CB.res,C6,BX]
  ·exact h.elim
 ·rename_i e
  cases dm:EN s<;>simp only[dm,cond_true,cond_false]at h;obtain ⟨g2,g3,g4,h⟩:=h;obtain ⟨k,h1,h2,h3⟩:=GH h;refine ⟨.bu (.row s (st.own.g9 s) z 0 ys.length) (st.own.put s ((st.own s).new ⟨z,ys⟩)),_,_,_,λ C => ?_,h3,?_,hr.db h1 h2 (.rw z ys) trivial rfl (λ_=>dm)⟩
  ·simp only[c9,rf,hr.ev e (by intro e;cases e),EZ]
   rw[if_pos g2,if_pos ⟨g3,g4⟩]
  ·simp only[CB.res,C6,BX]
 ·exact h.elim
theorem xX {s z bytes:Nat} {x y:AP} (hr:RX σ tm M st) (h:XE L tm M b9 K (.dj s z bytes x y)):BM L tm b9 K (.dj s z bytes x y) st:=by
 simp only[XE]at h;split at h
 ·rename_i l ys ey
  split at h
  ·rename_i key z' off len e
   cases ho:Nat.beq off 0<;>simp only[ho,cond_true,cond_false]at h;cases hz:Nat.beq z' z<;>simp only[hz,cond_true,cond_false]at h;obtain rfl:=BK.1 ho;obtain rfl:=BK.1 hz;split at h
   ·rename_i s' ax es hm
    cases ck:Nat.beq s' s<;>simp only[ck,cond_true,cond_false]at h;cases nq:Nat.beq ax z'<;>simp only[nq,cond_true,cond_false]at h;obtain rfl:=BK.1 ck;obtain rfl:=BK.1 nq;rw[I8]at h;obtain ⟨g1,g2,g3,g4,h⟩:=h;obtain ⟨k,h1,h2,h3⟩:=GH h;have hs:=hr.sat.site _ _ _ hm;have v7:=hr.sat.e8 _ _ _ (DJ hm);have hn:=(hr.kill hm).db (s:=k) (q:=s') (WE h1) h2 (.rw ax (es.take len++ys)) trivial rfl (λ_=>by have:=hr.sat.low _ _ _ (DJ hm) rfl;rwa [hs]at this);have te:(st.own.put s' ((st.own s').n6 (σ key 0).2 none)).g9 s'=st.own.g9 s':=by simp [AH.g9,AH.j5,CD.n6]
    simp only[AH.j5,AH.ik,te]at hn;refine ⟨.sv s' (((st.own s').n6 (σ key 0).2 none).new ⟨ax,es.take len++ys⟩) (.row s' (st.own.g9 s') ax 0 (len+ys.length)),_,_,_,λ C => ?_,h3,?_,hn⟩
    ·rw[hs]at v7
     simp only[c9,hr.ev ey (by intro e;cases e),GR,hr.ev e (by intro e;cases e),C6,AH.get,hs,v7,A7.e8];rw[if_pos ⟨trivial,g2,trivial,trivial,g1,g3,g4⟩]
    ·simp only[CB.res,C6,BX]
   ·exact h.elim
  ·exact h.elim
 ·exact h.elim
theorem zL {v:AV} {ky k2 z n:Nat} (h:RA M v=some (ky,some (k2,z,n))):v = .row ky 0 1 0 1 /\ ∃ sy,c6 M ky=some (sy,.bs 1 [[.row k2 0 z 0 n]]):=by
 unfold RA at h;split at h
 ·split at h
  ·rename_i hm
   simp only[Option.some.injEq,Prod.mk.injEq]at h;obtain ⟨rfl,rfl,rfl,rfl⟩:=h;exact ⟨rfl,_,hm⟩
  ·simp at h
  ·cases h
 ·cases h
theorem zK {v:AV} {ky:Nat} (h:RA M v=some (ky,none)):v = .row ky 0 1 0 1 /\ ∃ sy,c6 M ky=some (sy,.rw 1 [[.nil]]):=by
 unfold RA at h;split at h
 ·split at h
  ·simp at h
  ·rename_i hm
   simp only[Option.some.injEq,Prod.mk.injEq,and_true]at h;subst h;exact ⟨rfl,_,hm⟩
  ·cases h
 ·cases h
theorem pP {z:Nat} : ∀ {es:List (List AV)},VU z es=true -> ∀ e∈es,e.length=z
 | [],_,e,he=>by cases he
 | a::r,h,e,he=>by
  simp only[VU]at h;cases h1:Nat.beq a.length z<;>simp only[h1,cond_true,cond_false]at h
  ·cases h
  ·rcases List.mem_cons.1 he with rfl|he
   ·exact BK.1 h1
   ·exact pP h e he
theorem sJ {k:Nat} {b:List (List AV)} (r2:IR k b=false) : ∀ {a:List (List AV)},IR k a=false->IR k (a++b)=false
 | [],_=>r2
 | c::a,h=>by
  simp only[IR,List.cons_append]at h ⊢;cases hq:HQ k c<;>simp only[hq,cond_true,cond_false]at h ⊢
  ·exact sJ r2 h
  ·cases h
theorem xW {s z bytes:Nat} {x y:AP} (hr:RX σ tm M st) (h:aM tm M s z bytes x y K):BM L tm b9 K (.app s z bytes x y) st:=by
 unfold aM at h;split at h
 ·rename_i ky zy ny ey
  split at h
  ·rename_i sy z2 jy qe
   cases a1:Nat.beq zy z<;>simp only[a1,cond_true,cond_false]at h;cases a2:Nat.beq z2 z<;>simp only[a2,cond_true,cond_false]at h;cases a3:Nat.beq ny jy.length<;>simp only[a3,cond_true,cond_false]at h;cases a4:VU z jy<;>simp only[a4,cond_true,cond_false]at h;have b1:=BK.1 a1;have b2:=BK.1 a2;have b3:=BK.1 a3;subst b1 b2 b3;have jt:=hr.sat.site _ _ _ qe;have ln:=hr.sat.e8 _ _ _ (DJ qe);rw[jt]at ln
   have zq:EA st.own (st.ev y)=some (jy.map λ cs=>cs.map (BA σ)):=by
    rw[hr.ev ey (by intro e;cases e)];simp only[C6,EA,AH.get,jt,ln,A7.e8];rw[if_pos (by simp),List.drop_zero,List.take_of_length_le (by simp)]
   have z0 : ∀ e∈jy.map (λ cs=>cs.map (BA σ)),e.length=z2:=λ e he=>by
    obtain ⟨c,hc,rfl⟩:=List.mem_map.1 he;rw[List.length_map];exact pP a4 c hc
   split at h
   ·rename_i e
    cases dm:EN s<;>simp only[dm,cond_true,cond_false]at h;obtain ⟨⟨g3,g4⟩,h⟩:=dP h;obtain ⟨k,h1,h2,h3⟩:=GH h;have vo:G1 k (.bs z2 jy)=false:=(OX h1 _ _ _ qe).2;refine ⟨.bu (.row s (st.own.g9 s) z2 0 jy.length) (st.own.put s ((st.own s).new ⟨z2,jy.map λ cs=>cs.map (BA σ)⟩)),_,_,_,λ C => ?_,h3,?_,hr.db h1 h2 (.bs z2 jy) trivial vo (λ_=>dm)⟩
    ·simp only[c9,zq,hr.ev e (by intro e;cases e),EZ]
     rw[if_pos z0,if_pos ⟨by simpa [DP] using g3,by simpa using g4⟩,List.length_map]
    ·simp only[CB.res,C6,BX]
   ·rename_i kx zx len e
    cases c1:Nat.beq zx z2<;>simp only[c1,cond_true,cond_false]at h;split at h
    ·rename_i s' z1 vb hm
     cases c2:Nat.beq z1 z2<;>simp only[c2,cond_true,cond_false]at h;cases c3:Nat.beq len vb.length<;>simp only[c3,cond_true,cond_false]at h;have d1:=BK.1 c1;have d2:=BK.1 c2;have d3:=BK.1 c3;subst d1 d3;rw[I8]at h;obtain ⟨⟨g3,g4⟩,h⟩:=dP h;obtain ⟨k,h1,h2,h3⟩:=GH h;have hs:=hr.sat.site _ _ _ hm;have v7:=hr.sat.e8 _ _ _ (DJ hm);have r1:IR k vb=false:=(OX h1 _ _ _ hm).2;have r2:IR k jy=false:=(OX h1 _ _ _ qe).2;have vo:G1 k (.bs zx (vb++jy))=false:=by
      exact sJ r2 r1
     have hn:=(hr.kill hm).db (s:=k) (q:=s') (WE h1) h2 (.bs zx (vb++jy)) trivial vo (λ_=>by have:=hr.sat.low _ _ _ (DJ hm) rfl;rwa [hs]at this);have te:(st.own.put s' ((st.own s').n6 (σ kx 0).2 none)).g9 s'=st.own.g9 s':=by simp [AH.g9,AH.j5,CD.n6]
     simp only[AH.j5,AH.ik,te,A7.e8,List.map_append]at hn;rw[hs]at v7;refine ⟨.bu (.row s' (st.own.g9 s') zx 0 (vb.length+jy.length)) (st.own.put s' (((st.own s').n6 (σ kx 0).2 none).new ⟨zx,vb.map (λ cs=>cs.map (BA σ))++jy.map λ cs=>cs.map (BA σ)⟩)),_,_,_,λ C => ?_,h3,?_,hn⟩
     ·simp only[c9,zq,hr.ev e (by intro e;cases e),C6,AH.get,hs,v7,A7.e8]
      rw[if_pos z0,if_pos ⟨d2,trivial,by simp,by simpa [DP] using g3,by simpa using g4⟩,List.take_of_length_le (by simp),List.length_map]
     ·simp only[CB.res,C6,BX,List.length_append]
    ·exact h.elim
   ·exact h.elim
  ·exact h.elim
 ·exact h.elim
theorem xU {s z bytes:Nat} {x y:AP} (hr:RX σ tm M st) (h:XE L tm M b9 K (.app s z bytes x y)):BM L tm b9 K (.app s z bytes x y) st:=by
 simp only[XE]at h;cases hV:Nat.ble 800000 s<;>simp only[hV,cond_true,cond_false]at h;rotate_left
 ·exact xW hr h
 split at h
 ·rename_i ky k2 z2 n2 yq
  obtain ⟨ox,sy,qe⟩:=zL yq;have jt:=hr.sat.site _ _ _ qe;have ln:=hr.sat.e8 _ _ _ (DJ qe);rw[jt]at ln
  have zq:EA st.own (st.ev y)=some [[.row (σ k2 0).1 (σ k2 0).2 z2 0 n2]]:=by
   rw[hr.ev ox (by intro e;cases e)];simp only[C6,EA,AH.get,jt,ln,A7.e8,BA,List.map_cons,List.map_nil,List.length_cons,List.length_nil];simp
  split at h
  ·rename_i key z' off len e
   cases ho:Nat.beq off 0<;>simp only[ho,cond_true,cond_false]at h;cases hz:Nat.beq z' 1<;>simp only[hz,cond_true,cond_false]at h;cases ij:Nat.beq z 1<;>simp only[ij,cond_true,cond_false]at h;cases ia:Nat.beq key k2<;>simp only[ia,cond_true,cond_false]at h;cases Lb:Nat.beq key ky<;>simp only[Lb,cond_true,cond_false]at h;cases Kz:Nat.beq k2 ky<;>simp only[Kz,cond_true,cond_false]at h;obtain rfl:=BK.1 ho;obtain rfl:=BK.1 hz;obtain rfl:=BK.1 ij;split at h
   ·rename_i s2 z3 es gf
    cases Gk:Nat.beq z2 z3<;>simp only[Gk,cond_true,cond_false]at h;obtain rfl:=BK.1 Gk;split at h
    ·rename_i s' rows hm
     rw[I8]at h;obtain ⟨rfl,rfl,g3,g4,h⟩:=h;obtain ⟨k,h1,h2,h3⟩:=GH h;have hs:=hr.sat.site _ _ _ hm;have v7:=hr.sat.e8 _ _ _ (DJ hm);rw[hs]at v7;refine ⟨.bu (.row s' (st.own.g9 s') 1 0 (rows.length+1)) (st.own.put s' (((st.own s').n6 (σ key 0).2 none).new ⟨1,B5 σ key 0 rows++[[.row (σ k2 0).1 (σ k2 0).2 z2 0 es.length]]⟩)),_,_,_,λ C => ?_,h3,?_,hr.Ih (ky:=ky) hm gf (FD.1 ia) h1 h2⟩
     ·simp only[c9,zq,hr.ev e (by intro e;cases e),C6,AH.get,hs,v7,A7.e8]
      rw[if_pos (by simp),if_pos ⟨trivial,trivial,by rw[E4];exact Nat.le_refl _,by simpa using g3,by simpa using g4⟩];rw[List.take_of_length_le (by rw[E4];exact Nat.le_refl _)];rfl
     ·simp only[CB.res,C6,BX]
    ·exact h.elim
   ·exact h.elim
  ·rename_i e
   cases dm:EN s<;>simp only[dm,cond_true,cond_false]at h;cases ij:Nat.beq z 1<;>simp only[ij,cond_true,cond_false]at h;obtain rfl:=BK.1 ij;split at h
   ·rename_i s2 z3 es gf
    cases Gk:Nat.beq z2 z3<;>simp only[Gk,cond_true,cond_false]at h;obtain rfl:=BK.1 Gk;rw[I8]at h;obtain ⟨⟨rfl,g3⟩,h⟩:=h;obtain ⟨k,h1,h2,h3⟩:=GH h;obtain ⟨σ',q1,q2⟩:=hr.Ni (q:=s) gf (λ e=>(OX h1 _ _ _ gf).1 e.symm) h1 h2 dm;refine ⟨.bu (.row s (st.own.g9 s) 1 0 1) (st.own.put s ((st.own s).new ⟨1,[[.row (σ k2 0).1 (σ k2 0).2 z2 0 es.length]]⟩)),σ',_,_,λ C => ?_,h3,?_,q2⟩
    ·simp only[c9,zq,hr.ev e (by intro e;cases e),EZ]
     rw[if_pos (by simp),if_pos ⟨by simpa [DP] using g3,by simp⟩];rfl
    ·simp only[CB.res,C6,q1]
   ·exact h.elim
  ·exact h.elim
 ·rename_i ky yq
  obtain ⟨ox,sy,qe⟩:=zK yq;have jt:=hr.sat.site _ _ _ qe;have ln:=hr.sat.e8 _ _ _ (DJ qe);rw[jt]at ln
  have zq:EA st.own (st.ev y)=some [[.nil]]:=by
   rw[hr.ev ox (by intro e;cases e)];simp only[C6,EA,AH.get,jt,ln,A7.e8,List.length_cons,List.length_nil];simp
  split at h
  ·rename_i key z' off len e
   cases ho:Nat.beq off 0<;>simp only[ho,cond_true,cond_false]at h;cases hz:Nat.beq z' 1<;>simp only[hz,cond_true,cond_false]at h;cases ij:Nat.beq z 1<;>simp only[ij,cond_true,cond_false]at h;cases Lb:Nat.beq key ky<;>simp only[Lb,cond_true,cond_false]at h;obtain rfl:=BK.1 ho;obtain rfl:=BK.1 hz;obtain rfl:=BK.1 ij;split at h
   ·rename_i s' rows hm
    rw[I8]at h;obtain ⟨rfl,g3,g4,h⟩:=h;obtain ⟨k,h1,h2,h3⟩:=GH h;have hs:=hr.sat.site _ _ _ hm;have v7:=hr.sat.e8 _ _ _ (DJ hm);rw[hs]at v7;refine ⟨.bu (.row s' (st.own.g9 s') 1 0 (rows.length+1)) (st.own.put s' (((st.own s').n6 (σ key 0).2 none).new ⟨1,B5 σ key 0 rows++[[.nil]]⟩)),_,_,_,λ C => ?_,h3,?_,hr.Ii hm h1 h2⟩
    ·simp only[c9,zq,hr.ev e (by intro e;cases e),C6,AH.get,hs,v7,A7.e8]
     rw[if_pos (by simp),if_pos ⟨trivial,trivial,by rw[E4];exact Nat.le_refl _,by simpa using g3,by simpa using g4⟩];rw[List.take_of_length_le (by rw[E4];exact Nat.le_refl _)];rfl
    ·simp only[CB.res,C6,BX]
   ·exact h.elim
  ·rename_i e
   cases dm:EN s<;>simp only[dm,cond_true,cond_false]at h;cases ij:Nat.beq z 1<;>simp only[ij,cond_true,cond_false]at h;obtain rfl:=BK.1 ij;obtain ⟨g3,h⟩:=h;obtain ⟨k,h1,h2,h3⟩:=GH h;have df:A7.flat (.mx [none]):=by
    intro i x hx;cases i with
    | zero=>simp at hx
    | succ i=>simp at hx
   refine ⟨.bu (.row s (st.own.g9 s) 1 0 1) (st.own.put s ((st.own s).new ⟨1,[[.nil]]⟩)),_,_,_,λ C => ?_,h3,?_,hr.db h1 h2 (.mx [none]) df rfl (λ_=>dm)⟩
   ·simp only[c9,zq,hr.ev e (by intro e;cases e),EZ]
    rw[if_pos (by simp),if_pos ⟨by simpa [DP] using g3,by simp⟩];rfl
   ·simp only[CB.res,C6,BX]
  ·exact h.elim
 ·exact xV hr h
theorem yG {z:Nat} {x y:AP} (hr:RX σ tm M st) (h:XE L tm M b9 K (.oa z x y)):BM L tm b9 K (.oa z x y) st:=by
 simp only[XE]at h;obtain ⟨h0,ys,hy,h⟩:=mQ hr h;have rf:EA st.own (st.ev y)=some ys:=by rw[hr.ev rfl h0];exact hy
 split at h
 ·rename_i key z' off len e
  cases hz:Nat.beq z' z<;>simp only[hz,cond_true,cond_false]at h;obtain rfl:=BK.1 hz;split at h
  ·rename_i s' ax es hm
   cases nq:Nat.beq ax z'<;>simp only[nq,cond_true,cond_false]at h;obtain rfl:=BK.1 nq;obtain ⟨g1,g2,h⟩:=h;have hs:=hr.sat.site _ _ _ hm;have v7:=hr.sat.e8 _ _ _ (DJ hm);refine ⟨.bu (.int .i64 (min ys.length len:Nat)) (st.own.put s' ((st.own s').n6 (σ key 0).2 (some ⟨ax,es.take off++ys.take len++es.drop (off+min ys.length len)⟩))),_,_,_,λ C => ?_,h,rfl,hr.Ib hm trivial (.rw ax _) trivial (λ_=>rfl)⟩;rw[hs]at v7;simp only[c9,rf,hr.ev e (by intro e;cases e),C6,AH.get,hs,v7,A7.e8];rw[if_pos ⟨trivial,trivial,g1,g2⟩]
  ·exact h.elim
 ·exact h.elim
end
end Go.c5
