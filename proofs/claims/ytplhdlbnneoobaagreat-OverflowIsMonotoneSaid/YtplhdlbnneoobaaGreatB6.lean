/-
  The walk by computation is sound.
-/
import Derived.Test.YtplhdlbnneoobaaGreatB5
set_option linter.unusedSimpArgs false
set_option linter.unusedVariables false
set_option linter.unnecessarySimpa false
namespace Go.b7
theorem BJ {a b:Nat}:Nat.beq a b=true↔a=b:=⟨Nat.eq_of_beq_eq_true,λ h=>by subst h;simp⟩
theorem FH {a b:Nat}:Nat.beq a b=false↔a≠b:=by
 constructor
 ·exact Nat.ne_of_beq_eq_false
 ·intro h
  cases e:Nat.beq a b
  ·rfl
  ·exact absurd (Nat.eq_of_beq_eq_true e) h
theorem J5 (j:Nat) : ∀ tm:Tm,tg tm j=g6 tm j
 | []=>rfl
 | (i,v)::r=>by
  simp only[tg,WK,J5 j r];cases e:Nat.beq j i
  ·rw[if_neg (FH.1 e)];rfl
  ·rw[if_pos (BJ.1 e)];rfl
theorem HN : ∀ (l:List AV) (K:List AV->Prop),fL l K=K l
 | [],_=>rfl
 | v::r,K=>by rw[fL,HN r]
theorem VD : ∀ (l:Tm) (K:Tm->Prop),fT l K=K l
 | [],_=>rfl
 | (i,v)::r,K=>by rw[fT,VD r]
theorem OW : ∀ (l:Mem) (K:Mem->Prop),fM l K=K l
 | [],_=>rfl
 | (k,s,c)::r,K=>by rw[fM,OW r]
theorem So (n:Nat) (K:Nat->Prop):fN n K=K n:=by cases n<;>rfl
theorem aJ (m i:Nat):bit m i=m.testBit i:=by
 have h:Nat.land (Nat.shiftRight m i) 1=(m >>> i)%2:=Nat.and_one_is_mod (m >>> i);have ht:m.testBit i=decide ((m >>> i)%2=1):=by
  rw[Nat.testBit,Nat.and_comm,Nat.and_one_is_mod];rcases Nat.mod_two_eq_zero_or_one (m >>> i) with e|e<;>simp [e]
 unfold bit;rw[h,ht];rcases Nat.mod_two_eq_zero_or_one (m >>> i) with e|e<;>rw[e]<;>rfl
theorem jQ (m i j:Nat):bit (Nat.lor m (Nat.shiftLeft 1 i)) j=(bit m j||decide (j=i)):=by
 rw[aJ,aJ];show (m ||| (1 <<< i)).testBit j=_;rw[Nat.testBit_or,Nat.testBit_shiftLeft];congr 1;by_cases h:j=i
 ·subst h;simp
 ·by_cases h2:j≥i
  ·obtain ⟨d,rfl⟩ : ∃ d,j=i+d+1:=⟨j-i-1,by omega⟩
   rw[show i+d+1-i=d+1 by omega,Nat.testBit_succ];simp [h]
  ·simp [h2,h]
theorem jP : ∀ (ts:List Nat) (m j:Nat),bit (mask m ts) j=(bit m j||ts.contains j)
 | [],m,j=>by simp [mask]
 | t::ts,m,j=>by
  rw[mask,jP ts,jQ,List.contains_cons,Bool.or_assoc];congr 2
theorem aK (j:Nat):bit 0 j=false:=by rw[aJ];simp
theorem WI (j:Nat) : ∀ (tm:Tm) (m:Nat),tg (se m tm) j=bif bit m j then .any else tg tm j
 | [],m=>by cases bit m j<;>rfl
 | (i,v)::r,m=>by
  simp only[se];cases hb:bit m i
  ·simp only[cond_false,tg,WI j r,jQ]
   cases hj:Nat.beq j i
   ·have:decide (j=i)=false:=by simpa using FH.1 hj
    simp only[cond_false,this,Bool.or_false]
   ·obtain rfl:=BJ.1 hj
    simp only[cond_true,hb,cond_false]
  ·simp only[cond_true,tg,WI j r]
   cases hj:Nat.beq j i
   ·rfl
   ·obtain rfl:=BJ.1 hj
    simp only[hb,cond_true]
theorem XZ {v:AV} {K:AV->Prop} (h:fV v K):v ≠ .any/\K v:=by
 cases v<;>simp only[fV,HN]at h<;>first|exact h.elim|exact ⟨(by intro e;cases e),h⟩
theorem XY {v:AV} {K:List AV->Prop} (h:fC v K):v ≠ .any /\ ∃ cs,cellsOf v=some cs/\K cs:=by
 cases v<;>simp only[fC,fV,HN]at h<;>first|exact h.elim|exact ⟨(by intro e;cases e),_,rfl,h⟩
theorem QL (b:Bool) (K:Bool->Prop):fB b K=K b:=by cases b<;>rfl
theorem uW {k:Nat} {tm:Tm} {M:Mem} (h:used k tm M=false):G1 k M=false/\H7 k tm=false:=by
 unfold used at h;cases h1:G1 k M<;>simp only[h1,cond_true,cond_false]at h
 ·exact ⟨rfl,h⟩
 ·cases h
theorem rV {tm:Tm} {M:Mem} {K:Nat->Prop} : ∀ {l:List Nat},YQ tm M l K -> ∃ k,G1 k M=false/\H7 k tm=false/\K k
 | [],h=>h.elim
 | k::r,h=>by
  simp only[YQ]at h;cases h0:used k tm M<;>simp only[h0,cond_true,cond_false]at h
  ·exact ⟨k,(uW h0).1,(uW h0).2,h⟩
  ·exact rV h
theorem HZ {s:Nat} {tm:Tm} {M:Mem} {K:Nat->Prop} (h:GH s tm M K) : ∃ k,G1 k M=false/\H7 k tm=false/\K k:=rV h
section
variable {σ:FG}
def C1 (σ:FG) (k:Nat) (f:Nat->Nat × Nat):FG:=λ j t=>if j=k then f t else σ j t
theorem CS {k j:Nat} (f:Nat->Nat × Nat) (h:j≠k):C1 σ k f j=σ j:=by funext t;simp [C1,h]
theorem BZ (k:Nat) (f:Nat->Nat × Nat):C1 σ k f k=f:=by funext t;simp [C1]
theorem gP {k:Nat} {p:Nat->Nat × Nat} {v:AV} (h:N1 k v=false):A6 (C1 σ k p) v=A6 σ v:=by
 cases v with
 | row j t z o n=>simp only[N1]at h;simp only[A6,CS p (FH.1 h)]
 | ptr j t a b=>simp only[N1]at h;simp only[A6,CS p (FH.1 h)]
 | _=>rfl
theorem T6 {k:Nat} {p:Nat->Nat × Nat} : ∀ {cs:List AV},H6 k cs=false->cs.map (A6 (C1 σ k p))=cs.map (A6 σ)
 | [],_=>rfl
 | c::r,h=>by
  simp only[H6]at h;cases h1:N1 k c<;>simp only[h1,cond_true,cond_false]at h
  ·rw[List.map_cons,List.map_cons,gP h1,T6 h]
  ·cases h
theorem gN {k:Nat} {p:Nat->Nat × Nat} : ∀ {es:List (List AV)},JK k es=false->(es.map λ cs=>cs.map (A6 (C1 σ k p)))=es.map λ cs=>cs.map (A6 σ)
 | [],_=>rfl
 | c::r,h=>by
  simp only[JK]at h;cases h1:H6 k c<;>simp only[h1,cond_true,cond_false]at h
  ·rw[List.map_cons,List.map_cons,T6 h1,gN h]
  ·cases h
theorem WG {k:Nat} {p:Nat->Nat × Nat} {v:AV} (h:P1 k v=false):BK (C1 σ k p) v=BK σ v:=by
 cases v with
 | agg cs=>simp only[P1]at h;simp only[BK,T6 h]
 | fn p f g cs=>simp only[P1]at h;simp only[BK,T6 h]
 | row a b c d e=>exact gP (v := .row a b c d e) h
 | ptr a b c d=>exact gP (v := .ptr a b c d) h
 | _=>rfl
theorem tZ {k:Nat} {p:Nat->Nat × Nat} : ∀ {cs:List AV},TY k cs=false->cs.map (BK (C1 σ k p))=cs.map (BK σ)
 | [],_=>rfl
 | c::r,h=>by
  simp only[TY]at h;cases h1:P1 k c<;>simp only[h1,cond_true,cond_false]at h
  ·rw[List.map_cons,List.map_cons,WG h1,tZ h]
  ·cases h
theorem ZE {k:Nat} {p:Nat->Nat × Nat} {v:AV} (h:N2 k v=false):A8 (C1 σ k p) v=A8 σ v:=by
 cases v with
 | g8 cs=>simp only[N2]at h;simp only[A8,tZ h]
 | agg cs=>exact WG (v := .agg cs) h
 | fn p f g cs=>exact WG (v := .fn p f g cs) h
 | row a b c d e=>exact WG (v := .row a b c d e) h
 | ptr a b c d=>exact WG (v := .ptr a b c d) h
 | _=>rfl
theorem TZ {k:Nat} : ∀ {tm:Tm},H7 k tm=false -> ∀ j,N2 k (tg tm j)=false
 | [],_,_=>rfl
 | (i,v)::r,h,j=>by
  simp only[H7]at h;cases h1:N2 k v<;>simp only[h1,cond_true,cond_false]at h
  ·simp only[tg]
   cases Nat.beq j i
   ·exact TZ h j
   ·exact h1
  ·cases h
theorem O1 {k:Nat} : ∀ {M:Mem},G1 k M=false -> ∀ j s c,c7 M j=some (s,c)->j≠k/\HF k c=false
 | [],_,_,_,_,e=>by cases e
 | (i,s0,c0)::r,h,j,s,c,e=>by
  simp only[G1]at h;cases h0:Nat.beq k i<;>simp only[h0,cond_true,cond_false]at h
  ·cases h1:HF k c0<;>simp only[h1,cond_true,cond_false]at h
   ·simp only[c7]at e
    cases h2:Nat.beq j i<;>simp only[h2,cond_true,cond_false]at e
    ·exact O1 h j s c e
    ·simp only[Option.some.injEq,Prod.mk.injEq]at e
     obtain ⟨_,rfl⟩:=e;exact ⟨λ e=>FH.1 h0 (e.symm.trans (BJ.1 h2)),h1⟩
   ·cases h
  ·cases h
theorem QU {σ σ':FG} {k:Nat} : ∀ (rows:List (Option (Nat × List (List AV)))) (i:Nat),(∀ j,i<=j->σ k (j+1)=σ' k (j+1))->B4 σ k i rows=B4 σ' k i rows
 | [],i,h=>rfl
 | none::r,i,h=>by rw[B4,B4,QU r (i+1) λ j hj=>h j (by omega)]
 | some (z,es)::r,i,h=>by rw[B4,B4,QU r (i+1) λ j hj=>h j (by omega),h i (by omega)]
theorem FK {k:Nat} : ∀ (rows:List (Option (Nat × List (List AV)))) (i j:Nat),(B4 σ k i rows)[j]? = (rows[j]?).map λ r=>match r with|none=>[.nil]|some (z,es)=>[.row (σ k (i+j+1)).1 (σ k (i+j+1)).2 z 0 es.length]
 | [],i,j=>by simp [B4]
 | none::r,i,0=>by simp [B4]
 | none::r,i,j+1=>by simp only[B4,List.getElem?_cons_succ,FK r (i+1) j];rw[show i+1+j=i+(j+1) by omega]
 | some (z,es)::r,i,0=>by simp [B4]
 | some (z,es)::r,i,j+1=>by simp only[B4,List.getElem?_cons_succ,FK r (i+1) j];rw[show i+1+j=i+(j+1) by omega]
theorem E5 {k:Nat} : ∀ (rows:List (Option (Nat × List (List AV)))) (i:Nat),(B4 σ k i rows).length=rows.length
 | [],i=>rfl
 | none::r,i=>by simp [B4,E5 r]
 | some (z,es)::r,i=>by simp [B4,E5 r]
theorem W5 {k j:Nat} {f:Nat->Nat × Nat} {c:A7} (h:HF k c=false) (hj:j≠k):c.c9 (C1 σ k f) j=c.c9 σ j:=by
 cases c with
 | bx cs=>simp only[HF]at h;simp only[A7.c9,T6 h]
 | rw z es=>rfl
 | bs z es=>simp only[HF]at h;simp only[A7.c9,gN h]
 | mx rows=>simp only[A7.c9];rw[QU rows 0 λ i _=>by rw[CS f hj]]
 | hx a v rows=>simp only[A7.c9];rw[QU rows 0 λ i _=>by rw[CS f hj]]
 | vw w rows=>simp only[A7.c9];rw[QU rows 0 λ i _=>by rw[CS f hj]]
theorem Og {v:AV} (h:oo v=true):A6 σ v=v:=by cases v<;>first|rfl|cases h
theorem JB : ∀ {cs:List AV},D5 cs=true->cs.map (A6 σ)=cs
 | [],_=>rfl
 | c::r,h=>by
  simp only[D5]at h;cases h1:oo c<;>simp only[h1,cond_true,cond_false]at h
  ·cases h
  ·rw[List.map_cons,Og h1,JB h]
theorem Oe {k:Nat} {v:AV} (h:oo v=true):N1 k v=false:=by cases v<;>first|rfl|cases h
theorem aX {k:Nat} : ∀ {cs:List AV},D5 cs=true->H6 k cs=false
 | [],_=>rfl
 | c::r,h=>by
  simp only[D5]at h;cases h1:oo c<;>simp only[h1,cond_true,cond_false]at h
  ·cases h
  ·simp only[H6,Oe h1,aX h,cond_false]
theorem Oc (v:AV):cv v = .any\/(cv v=v/\A8 σ v=v):=by
 cases v with
 | agg cs =>
  simp only[cv];cases h:D5 cs
  ·exact Or.inl rfl
  ·exact Or.inr ⟨rfl,by simp only[A8,BK,JB h]⟩
 | g8 vs=>cases vs with
  | nil=>exact Or.inr ⟨rfl,rfl⟩
  | cons=>exact Or.inl rfl
 | fn p f g cs=>cases cs with
  | nil=>exact Or.inr ⟨rfl,rfl⟩
  | cons=>exact Or.inl rfl
 | _=>first|exact Or.inl rfl|exact Or.inr ⟨rfl,rfl⟩
theorem Nz {k:Nat} (v:AV):N2 k (cv v)=false:=by
 cases v with
 | agg cs =>
  simp only[cv];cases h:D5 cs
  ·rfl
  ·exact aX h
 | g8 vs=>cases vs<;>rfl
 | fn p f g cs=>cases cs<;>rfl
 | _=>rfl
variable {tm:Tm} {M:Mem} {st:St}
theorem RX.ev (h:RX σ tm M st) {x:AP} {v:AV} (e:ex tm x=v) (hv:v ≠ .any):st.ev x=A8 σ v:=by
 cases x with
 | t n =>
  simp only[ex]at e;rcases h.tm n with h|h
  ·exact absurd (e.symm.trans h) hv
  ·rw[e]at h;exact h
 | c u =>
  simp only[ex]at e;rcases Oc (σ:=σ) u with h|⟨h,h'⟩
  ·exact absurd (e.symm.trans h) hv
  ·rw[<-e,h,h'];rfl
theorem oD {k:Nat} (h:H7 k tm=false) (x:AP):N2 k (ex tm x)=false:=by
 cases x with
 | t n=>exact TZ h n
 | c u=>exact Nz u
theorem sF {k:Nat} {v:AV} {cs:List AV} (h:N2 k v=false) (e:cellsOf v=some cs):H6 k cs=false:=by
 cases v<;>simp only[cellsOf,Option.some.injEq,reduceCtorEq]at e<;>subst e<;>first|exact h|rfl|(simp only[N2,P1]at h;simp only[H6,h,cond_false])
theorem OO {v:AV} {cs:List AV} (e:cellsOf v=some cs):cellsOf (A8 σ v)=some (cs.map (A6 σ)):=by
 cases v<;>simp only[cellsOf,Option.some.injEq,reduceCtorEq]at e<;>subst e<;>rfl
def A7.flat:A7->Prop
 | .mx rows => ∀ (i:Nat) (x:Nat × List (List AV)),rows[i]? = some (some x)->False
 | .hx _ _ _=>False
 | .vw _ _=>False
 | _=>True
theorem EI {M:Mem} {k s:Nat} {c:A7} (h:c7 M k=some (s,c)):c5 M k 0=some c:=by simp [c5,h]
theorem JG {M:Mem} {k t:Nat} {c:A7} (h:c5 M k t=some c) : ∃ s c0,c7 M k=some (s,c0)/\(t=0->c=c0)/\(∀ i,t=i+1 -> ∃ rows z es,((c0 = .mx rows \/ ∃ a v,c0 = .hx a v rows) \/ ∃ w,c0 = .vw w rows)/\rows[i]? = some (some (z,es))/\c = .rw z es):=by
 unfold c5 at h;cases hm:c7 M k with
 | none=>simp [hm]at h
 | some x =>
  obtain ⟨s,c0⟩:=x;simp only[hm]at h;refine ⟨s,c0,rfl,?_,?_⟩
  ·rintro rfl;exact (Option.some.inj h).symm
  ·rintro i rfl
   cases c0 with
   | mx rows =>
    simp only at h;cases hr:rows[i]? with
    | none=>simp [hr]at h
    | some r =>
     cases r with
     | none=>simp [hr]at h
     | some ze=>obtain ⟨z,es⟩:=ze;simp only[hr,Option.some.injEq]at h;exact ⟨rows,z,es,Or.inl (Or.inl rfl),hr,h.symm⟩
   | hx a v rows =>
    simp only at h;cases hr:rows[i]? with
    | none=>simp [hr]at h
    | some r =>
     cases r with
     | none=>simp [hr]at h
     | some ze=>obtain ⟨z,es⟩:=ze;simp only[hr,Option.some.injEq]at h;exact ⟨rows,z,es,Or.inl (Or.inr ⟨a,v,rfl⟩),hr,h.symm⟩
   | vw w rows =>
    simp only at h;cases hr:rows[i]? with
    | none=>simp [hr]at h
    | some r =>
     cases r with
     | none=>simp [hr]at h
     | some ze=>obtain ⟨z,es⟩:=ze;simp only[hr,Option.some.injEq]at h;exact ⟨rows,z,es,Or.inr ⟨w,rfl⟩,hr,h.symm⟩
   | _=>simp at h
theorem OY {M:Mem} {k s:Nat} {c:A7} {j t:Nat} (h:j≠k):c5 ((k,s,c)::M) j t=c5 M j t:=by
 simp only[c5,c7,FH.2 h,cond_false]
theorem R2 {M:Mem} {k s:Nat} {c:A7}:c5 ((k,s,c)::M) k 0=some c:=by simp [c5,c7]
theorem TQ {M:Mem} {k s:Nat} {c:A7} (hc:c.flat) {t:Nat} {c':A7} (h:c5 ((k,s,c)::M) k t=some c'):t=0/\c'=c:=by
 cases t with
 | zero=>rw[R2]at h;exact ⟨rfl,(Option.some.inj h).symm⟩
 | succ i =>
  simp only[c5,c7,Nat.beq_refl,cond_true]at h;cases c with
  | mx rows =>
   simp only at h;split at h
   ·rename_i z es hr
    exact (hc i (z,es) hr).elim
   ·cases h
  | hx a v rows=>exact hc.elim
  | vw w rows=>exact hc.elim
  | _=>simp at h
theorem Yb {σ σ':FG} {k k':Nat} {rows:List (Option (Nat × List (List AV)))} (h:A7.flat (.mx rows)):B4 σ k 0 rows=B4 σ' k' 0 rows:=by
 apply List.ext_getElem?;intro j;rw[FK,FK];cases hr:rows[j]? with
 | none=>rfl
 | some r=>cases r with
  | none=>rfl
  | some x=>exact (h j x hr).elim
theorem RX.dc (h:RX σ tm M st) {s q:Nat} (hm:G1 s M=false) (ht:H7 s tm=false) (c:A7) (hf:c.flat) (hc:HF s c=false) (hl:c.jt=true->E4 q=true) :
  RX (C1 σ s λ_=>(q,st.own.g7 q)) tm ((s,q,c)::M) ⟨st.tm,st.own.put q ((st.own q).new (c.c9 σ s))⟩:=by
 have Hx : ∀ j t c',c5 M j t=some c'->((st.own.put q ((st.own q).new (c.c9 σ s))) (σ j t).1).c9 (σ j t).2=(st.own (σ j t).1).c9 (σ j t).2:=by
  intro j t c' e;by_cases hs:(σ j t).1=q
  ·have ho:=h.sat.old _ _ _ e
   rw[hs]at ho ⊢;simp only[AH.j5,CD.new];rw[if_neg (by omega)]
  ·rw[AH.dd _ _ _ _ hs]
 have xf : ∀ s',(st.own s').g7<=((st.own.put q ((st.own q).new (c.c9 σ s))) s').g7:=by
  intro s';by_cases hs:s'=q
  ·subst hs;simp only[AH.j5,CD.new];omega
  ·rw[AH.dd _ _ _ _ hs];exact Nat.le_refl _
 have l9 : ∀ j t c',j≠s->c5 ((s,q,c)::M) j t=some c'->c5 M j t=some c':=λ j t c' hj e=>by rwa [OY hj]at e
 have yi : ∀ j t c',c5 M j t=some c'->HF s c'=false/\j≠s:=by
  intro j t c' e;obtain ⟨s1,c0,g1,g2,g3⟩:=JG e;obtain ⟨g4,g5⟩:=O1 hm _ _ _ g1;refine ⟨?_,g4⟩;cases t with
  | zero=>rw[g2 rfl];exact g5
  | succ i=>obtain ⟨rows,z,es,_,_,rfl⟩:=g3 i rfl;rfl
 refine ⟨λ j => ?_,⟨?_,?_,?_,?_,?_⟩⟩
 ·rw[ZE (TZ ht j)];exact h.tm j
 ·intro j s' c' e
  simp only[c7]at e;cases hb:Nat.beq j s<;>simp only[hb,cond_true,cond_false]at e
  ·rw[CS _ (FH.1 hb)];exact h.sat.site _ _ _ e
  ·simp only[Option.some.injEq,Prod.mk.injEq]at e
   obtain ⟨rfl,rfl⟩:=e;rw[BJ.1 hb,BZ]
 ·intro j t c' e
  by_cases hj:j=s
  ·subst hj
   obtain ⟨rfl,rfl⟩:=TQ hf e;have hb:c'.c9 (C1 σ j λ_=>(q,st.own.g7 q)) j=c'.c9 σ j:=by
    cases c' with
    | bx cs=>simp only[HF]at hc;simp only[A7.c9,T6 hc]
    | rw z es=>rfl
    | bs z es=>simp only[HF]at hc;simp only[A7.c9,gN hc]
    | mx rows=>exact congrArg (DY.mk 1) (Yb hf)
    | hx a v rows=>exact hf.elim
    | vw w rows=>exact hf.elim
   rw[BZ,hb];simp [AH.j5,CD.new,AH.g7]
  ·have e':=l9 j t c' hj e
   rw[CS _ hj,W5 (yi j t c' e').1 hj];exact (Hx j t c' e').trans (h.sat.c9 _ _ _ e')
 ·intro j t c' e
  by_cases hj:j=s
  ·subst hj
   rw[BZ];simp [AH.j5,CD.new,AH.g7]
  ·have e':=l9 j t c' hj e
   rw[CS _ hj];exact Nat.lt_of_lt_of_le (h.sat.old _ _ _ e') (xf _)
 ·have jc : ∀ j t c',c5 M j t=some c'->σ j t=(q,st.own.g7 q)->False:=by
   intro j t c' e hh;have h2:=h.sat.old _ _ _ e;rw[hh]at h2;exact absurd h2 (Nat.lt_irrefl _)
  intro j t j' t' c1 c2 e1 e2 hj;by_cases h1:j=s<;>by_cases h2:j'=s
  ·subst h1;subst h2
   exact ⟨rfl,(TQ hf e1).1.trans (TQ hf e2).1.symm⟩
  ·subst h1
   rw[BZ,CS _ h2]at hj;exact (jc _ _ _ (l9 _ _ _ h2 e2) hj.symm).elim
  ·subst h2
   rw[BZ,CS _ h1]at hj;exact (jc _ _ _ (l9 _ _ _ h1 e1) hj).elim
  ·rw[CS _ h1,CS _ h2]at hj
   exact h.sat.inj _ _ _ _ _ _ (l9 _ _ _ h1 e1) (l9 _ _ _ h2 e2) hj
 ·intro j t c' e hw
  by_cases hj:j=s
  ·subst hj
   obtain ⟨rfl,rfl⟩:=TQ hf e;rw[BZ];exact hl hw
  ·rw[CS _ hj];exact h.sat.low _ _ _ (l9 j t c' hj e) hw
theorem OX {k j:Nat} {x:Nat × A7} : ∀ {M:Mem},c7 (n7 k M) j=some x->j≠k/\c7 M j=some x
 | [],e=>by cases e
 | (i,s,c)::r,e=>by
  simp only[n7]at e;cases hb:Nat.beq k i<;>simp only[hb,cond_true,cond_false]at e
  ·simp only[c7]at e ⊢
   cases hj:Nat.beq j i<;>simp only[hj,cond_true,cond_false]at e ⊢
   ·exact OX e
   ·exact ⟨λ e'=>FH.1 hb (e'.symm.trans (BJ.1 hj)),e⟩
  ·obtain ⟨h1,h2⟩:=OX e
   refine ⟨h1,?_⟩;simp only[c7];rw[FH.2 (λ e'=>h1 (e'.trans (BJ.1 hb).symm))];exact h2
theorem R9 {own:AH} {p:Nat × Nat} {x:Option DY} {q:Nat × Nat} (h:q≠p):((own.put p.1 ((own p.1).n9 p.2 x)) q.1).c9 q.2=(own q.1).c9 q.2:=by
 by_cases hs:q.1=p.1
 ·rw[hs,AH.j5]
  simp only[CD.n9];rw[if_neg (λ e=>h (Prod.ext hs e))]
 ·rw[AH.dd _ _ _ _ hs]
theorem YS {own:AH} {p:Nat × Nat} {x:Option DY}:((own.put p.1 ((own p.1).n9 p.2 x)) p.1).c9 p.2=x:=by simp [AH.j5,CD.n9]
theorem V2 {own:AH} {p:Nat × Nat} {x:Option DY} (s:Nat):((own.put p.1 ((own p.1).n9 p.2 x)) s).g7=(own s).g7:=by
 by_cases hs:s=p.1
 ·subst hs;rw[AH.j5];rfl
 ·rw[AH.dd _ _ _ _ hs]
theorem RX.Jl (h:RX σ tm M st) {k s:Nat} {c:A7} (e:c7 M k=some (s,c)) (hf:c.flat) (c':A7) (jk:c'.flat) (hir:c'.jt=true->c.jt=true) :
  RX σ tm ((k,s,c')::M) ⟨st.tm,st.own.put s ((st.own s).n9 (σ k 0).2 (some (c'.c9 σ k)))⟩:=by
 have hs:=h.sat.site _ _ _ e;subst hs;have e0:=EI e;have hg : ∀ j t c1,c5 ((k,(σ k 0).1,c')::M) j t=some c1->(j=k/\t=0/\c1=c')\/(j≠k/\c5 M j t=some c1):=by
  intro j t c1 e1;by_cases hj:j=k
  ·subst hj
   obtain ⟨rfl,rfl⟩:=TQ jk e1;exact Or.inl ⟨rfl,rfl,rfl⟩
  ·rw[OY hj]at e1
   exact Or.inr ⟨hj,e1⟩
 have mq : ∀ j t c1,c5 ((k,(σ k 0).1,c')::M) j t=some c1 -> ∃ c2,c5 M j t=some c2:=by
  intro j t c1 e1;rcases hg j t c1 e1 with ⟨rfl,rfl,rfl⟩|⟨_,h2⟩
  ·exact ⟨c,e0⟩
  ·exact ⟨c1,h2⟩
 refine ⟨h.tm,⟨?_,?_,?_,?_,?_⟩⟩
 ·intro j s' c1 e1
  simp only[c7]at e1;cases hb:Nat.beq j k<;>simp only[hb,cond_true,cond_false]at e1
  ·exact h.sat.site _ _ _ e1
  ·simp only[Option.some.injEq,Prod.mk.injEq]at e1
   rw[BJ.1 hb];exact e1.1
 ·intro j t c1 e1
  rcases hg j t c1 e1 with ⟨rfl,rfl,rfl⟩|⟨h1,h2⟩
  ·exact YS
  ·refine (R9 (λ he => ?_)).trans (h.sat.c9 _ _ _ h2)
   exact h1 (h.sat.inj _ _ _ _ _ _ h2 e0 he).1
 ·intro j t c1 e1
  obtain ⟨c2,e2⟩:=mq _ _ _ e1;show (σ j t).2<((st.own.put (σ k 0).1 ((st.own (σ k 0).1).n9 (σ k 0).2 (some (c'.c9 σ k)))) (σ j t).1).g7;rw[V2];exact h.sat.old _ _ _ e2
 ·intro j t j' t' c1 c2 e1 e2 hj
  obtain ⟨_,Ai⟩:=mq _ _ _ e1;obtain ⟨_,vt⟩:=mq _ _ _ e2;exact h.sat.inj _ _ _ _ _ _ Ai vt hj
 ·intro j t c1 e1 hw
  rcases hg j t c1 e1 with ⟨rfl,rfl,rfl⟩|⟨_,h2⟩
  ·exact h.sat.low _ _ _ e0 (hir hw)
  ·exact h.sat.low _ _ _ h2 hw
theorem Xq {k t:Nat} {c:A7} (h:c5 M k (t+1)=some c):c.jt=true:=by
 obtain ⟨_,_,_,_,g3⟩:=JG h;obtain ⟨_,_,_,_,_,rfl⟩:=g3 t rfl;rfl
theorem LQ {k j t:Nat} {c:A7} (h:c5 (n7 k M) j t=some c):j≠k/\c5 M j t=some c:=by
 obtain ⟨s,c0,g1,_⟩:=JG h;obtain ⟨h1,h2⟩:=OX g1;refine ⟨h1,?_⟩;unfold c5 at h ⊢;rw[g1]at h;rw[h2];exact h
theorem RX.kill (h:RX σ tm M st) {k s:Nat} {c:A7} (e:c7 M k=some (s,c)) :
  RX σ tm (n7 k M) ⟨st.tm,st.own.put s ((st.own s).n9 (σ k 0).2 none)⟩:=by
 have hs:=h.sat.site _ _ _ e;subst hs;have e0:=EI e;refine ⟨h.tm,⟨?_,?_,?_,?_,?_⟩⟩
 ·intro j s' c1 e1
  exact h.sat.site _ _ _ (OX e1).2
 ·intro j t c1 e1
  obtain ⟨hj,e1⟩:=LQ e1;refine (R9 (λ he => ?_)).trans (h.sat.c9 _ _ _ e1);exact hj (h.sat.inj _ _ _ _ _ _ e1 e0 he).1
 ·intro j t c1 e1
  obtain ⟨hj,e1⟩:=LQ e1;show (σ j t).2<((st.own.put (σ k 0).1 ((st.own (σ k 0).1).n9 (σ k 0).2 none)) (σ j t).1).g7;rw[V2];exact h.sat.old _ _ _ e1
 ·intro j t j' t' c1 c2 e1 e2 hj
  exact h.sat.inj _ _ _ _ _ _ (LQ e1).2 (LQ e2).2 hj
 ·intro j t c1 e1 hw
  exact h.sat.low _ _ _ (LQ e1).2 hw
theorem RX.Jj (h:RX σ tm M st) {k s i z:Nat} {rows:List (Option (Nat × List (List AV)))} {es es':List (List AV)} (e:c7 M k=some (s,.mx rows)) (hr:rows[i]? = some (some (z,es))) (hl:es'.length=es.length) :
  RX σ tm ((k,s,.mx (rows.set i (some (z,es'))))::M) ⟨st.tm,st.own.put (σ k (i+1)).1 ((st.own (σ k (i+1)).1).n9 (σ k (i+1)).2 (some ⟨z,es'⟩))⟩:=by
 have e1:c5 M k (i+1)=some (.rw z es):=by simp [c5,e,hr]
 have hi:i<rows.length:=(zS hr).1;have fm:B4 σ k 0 (rows.set i (some (z,es')))=B4 σ k 0 rows:=by
  apply List.ext_getElem?;intro j;rw[FK,FK];by_cases hj:i=j
  ·subst hj;rw[List.getElem?_set_self hi,hr];simp [hl]
  ·rw[List.getElem?_set_ne hj]
 have hg : ∀ j t c1,c5 ((k,s,.mx (rows.set i (some (z,es'))))::M) j t=some c1->(j=k/\t=i+1/\c1 = .rw z es')\/(¬ (j=k/\t=i+1) /\ ∃ c2,c5 M j t=some c2/\c2.c9 σ j=c1.c9 σ j):=by
  intro j t c1 g;by_cases hj:j=k
  ·subst hj
   cases t with
   | zero =>
    rw[R2]at g;obtain rfl:=Option.some.inj g;exact Or.inr ⟨by omega,_,EI e,by simp only[A7.c9,fm]⟩
   | succ t =>
    simp only[c5,c7,Nat.beq_refl,cond_true]at g;by_cases np:i=t
    ·subst np
     rw[List.getElem?_set_self hi]at g;exact Or.inl ⟨rfl,rfl,(Option.some.inj g).symm⟩
    ·rw[List.getElem?_set_ne np]at g
     refine Or.inr ⟨by omega,c1,?_,rfl⟩;simp only[c5,e];exact g
  ·rw[OY hj]at g
   exact Or.inr ⟨by omega,c1,g,rfl⟩
 have mq : ∀ j t c1,c5 ((k,s,.mx (rows.set i (some (z,es'))))::M) j t=some c1 -> ∃ c2,c5 M j t=some c2:=by
  intro j t c1 g;rcases hg j t c1 g with ⟨rfl,rfl,rfl⟩|⟨_,c2,h2,_⟩
  ·exact ⟨_,e1⟩
  ·exact ⟨c2,h2⟩
 refine ⟨h.tm,⟨?_,?_,?_,?_,?_⟩⟩
 ·intro j s' c1 g
  simp only[c7]at g;cases hb:Nat.beq j k<;>simp only[hb,cond_true,cond_false]at g
  ·exact h.sat.site _ _ _ g
  ·simp only[Option.some.injEq,Prod.mk.injEq]at g
   rw[BJ.1 hb,<-g.1];exact h.sat.site _ _ _ e
 ·intro j t c1 g
  rcases hg j t c1 g with ⟨rfl,rfl,rfl⟩|⟨h1,c2,h2,h3⟩
  ·exact YS
  ·rw[<-h3]
   refine (R9 (λ he => ?_)).trans (h.sat.c9 _ _ _ h2);exact h1 (h.sat.inj _ _ _ _ _ _ h2 e1 he)
 ·intro j t c1 g
  obtain ⟨c2,e2⟩:=mq _ _ _ g;show (σ j t).2<((st.own.put (σ k (i+1)).1 ((st.own (σ k (i+1)).1).n9 (σ k (i+1)).2 (some ⟨z,es'⟩))) (σ j t).1).g7;rw[V2];exact h.sat.old _ _ _ e2
 ·intro j t j' t' c1 c2 g1 g2 hj
  obtain ⟨_,Ai⟩:=mq _ _ _ g1;obtain ⟨_,vt⟩:=mq _ _ _ g2;exact h.sat.inj _ _ _ _ _ _ Ai vt hj
 ·intro j t c1 g hw
  obtain ⟨c2,e2⟩:=mq _ _ _ g;cases t with
  | zero =>
   by_cases hj:j=k
   ·subst hj;exact h.sat.low _ _ _ (EI e) rfl
   ·rw[OY hj]at g;exact h.sat.low _ _ _ g hw
  | succ t=>exact h.sat.low _ _ _ e2 (Xq e2)
section
variable {k:Nat} {f:Nat->Nat × Nat}
theorem gO {v:AV} (hf:f 0=σ k 0) (h:PL k v=false):A6 (C1 σ k f) v=A6 σ v:=by
 cases v with
 | row j t z o n =>
  simp only[PL]at h;cases hb:Nat.beq j k
  ·simp only[A6,CS f (FH.1 hb)]
  ·obtain rfl:=BJ.1 hb
   simp only[hb,cond_true]at h;cases t with
   | zero=>simp only[A6,BZ,hf]
   | succ t=>cases h
 | ptr j t a b =>
  simp only[PL]at h;cases hb:Nat.beq j k
  ·simp only[A6,CS f (FH.1 hb)]
  ·obtain rfl:=BJ.1 hb
   simp only[hb,cond_true]at h;cases t with
   | zero=>simp only[A6,BZ,hf]
   | succ t=>cases h
 | _=>rfl
theorem WD (hf:f 0=σ k 0) : ∀ {cs:List AV},OP k cs=false->cs.map (A6 (C1 σ k f))=cs.map (A6 σ)
 | [],_=>rfl
 | c::r,h=>by
  simp only[OP]at h;cases h1:PL k c<;>simp only[h1,cond_true,cond_false]at h
  ·rw[List.map_cons,List.map_cons,gO hf h1,WD hf h]
  ·cases h
theorem tW (hf:f 0=σ k 0) : ∀ {es:List (List AV)},S3 k es=false->(es.map λ cs=>cs.map (A6 (C1 σ k f)))=es.map λ cs=>cs.map (A6 σ)
 | [],_=>rfl
 | c::r,h=>by
  simp only[S3]at h;cases h1:OP k c<;>simp only[h1,cond_true,cond_false]at h
  ·rw[List.map_cons,List.map_cons,WD hf h1,tW hf h]
  ·cases h
theorem WF {v:AV} (hf:f 0=σ k 0) (h:RF k v=false):BK (C1 σ k f) v=BK σ v:=by
 cases v with
 | agg cs=>simp only[RF]at h;simp only[BK,WD hf h]
 | fn p f g cs=>simp only[RF]at h;simp only[BK,WD hf h]
 | row a b c d e=>exact gO (v := .row a b c d e) hf h
 | ptr a b c d=>exact gO (v := .ptr a b c d) hf h
 | _=>rfl
theorem tX (hf:f 0=σ k 0) : ∀ {cs:List AV},S2 k cs=false->cs.map (BK (C1 σ k f))=cs.map (BK σ)
 | [],_=>rfl
 | c::r,h=>by
  simp only[S2]at h;cases h1:RF k c<;>simp only[h1,cond_true,cond_false]at h
  ·rw[List.map_cons,List.map_cons,WF hf h1,tX hf h]
  ·cases h
theorem Zt {v:AV} (hf:f 0=σ k 0) (h:QG k v=false):A8 (C1 σ k f) v=A8 σ v:=by
 cases v with
 | g8 cs=>simp only[QG]at h;simp only[A8,tX hf h]
 | agg cs=>exact WF (v := .agg cs) hf h
 | fn p f g cs=>exact WF (v := .fn p f g cs) hf h
 | row a b c d e=>exact WF (v := .row a b c d e) hf h
 | ptr a b c d=>exact WF (v := .ptr a b c d) hf h
 | _=>rfl
theorem kF : ∀ {tm:Tm},OQ k tm=false -> ∀ j,QG k (tg tm j)=false
 | [],_,_=>rfl
 | (i,v)::r,h,j=>by
  simp only[OQ]at h;cases h1:QG k v<;>simp only[h1,cond_true,cond_false]at h
  ·simp only[tg]
   cases Nat.beq j i
   ·exact kF h j
   ·exact h1
  ·cases h
theorem kC : ∀ {M:Mem},KB k M=false -> ∀ j s c,c7 M j=some (s,c)->PM k c=false
 | [],_,_,_,_,e=>by cases e
 | (i,s0,c0)::r,h,j,s,c,e=>by
  simp only[KB]at h;cases h1:PM k c0<;>simp only[h1,cond_true,cond_false]at h
  ·simp only[c7]at e
   cases h2:Nat.beq j i<;>simp only[h2,cond_true,cond_false]at e
   ·exact kC h j s c e
   ·simp only[Option.some.injEq,Prod.mk.injEq]at e
    obtain ⟨_,rfl⟩:=e;exact h1
  ·cases h
theorem zW {c:A7} {j:Nat} (hf:f 0=σ k 0) (h:PM k c=false) (hj:j≠k):c.c9 (C1 σ k f) j=c.c9 σ j:=by
 cases c with
 | bx cs=>simp only[PM]at h;simp only[A7.c9,WD hf h]
 | rw z es=>rfl
 | bs z es=>simp only[PM]at h;simp only[A7.c9,tW hf h]
 | mx rows=>simp only[A7.c9];rw[QU rows 0 λ i _=>by rw[CS f hj]]
 | hx a v rows=>simp only[A7.c9];rw[QU rows 0 λ i _=>by rw[CS f hj]]
 | vw w rows=>simp only[A7.c9];rw[QU rows 0 λ i _=>by rw[CS f hj]]
end
theorem RX.yq (h:RX σ tm M st) {k k2 s s2 i z:Nat} {rows:List (Option (Nat × List (List AV)))} {es:List (List AV)} {c0:A7} (e:c7 M k=some (s,c0)) (ep:c0 = .mx rows \/ ∃ v,c0 = .hx i v rows) (e2:c7 M k2=some (s2,.rw z es)) (hk:k≠k2) (ag:OQ k tm=false) (pg:KB k M=false) (hi:i<rows.length) :
  RX (C1 σ k λ t=>if t=i+1 then σ k2 0 else σ k t) tm ((k,s,.mx (rows.set i (some (z,es))))::n7 k2 M) ⟨st.tm,st.own.put s ((st.own s).n9 (σ k 0).2 (some ⟨1,(B4 σ k 0 rows).set i [.row (σ k2 0).1 (σ k2 0).2 z 0 es.length]⟩))⟩:=by
 have hs:=h.sat.site _ _ _ e;subst hs;have r0:=EI e;have r2:=EI e2;have f0:(λ t=>if t=i+1 then σ k2 0 else σ k t) 0=σ k 0:=by simp
 have fm:B4 (C1 σ k λ t=>if t=i+1 then σ k2 0 else σ k t) k 0 (rows.set i (some (z,es)))=(B4 σ k 0 rows).set i [.row (σ k2 0).1 (σ k2 0).2 z 0 es.length]:=by
  apply List.ext_getElem?;intro j;rw[FK,BZ];by_cases hj:i=j
  ·subst hj
   rw[List.getElem?_set_self hi,List.getElem?_set_self (by rw[E5];exact hi)];simp
  ·rw[List.getElem?_set_ne hj,List.getElem?_set_ne hj,FK]
   congr 1;funext r
   cases r with
   | none=>rfl
   | some x=>simp only[Nat.zero_add];rw[if_neg (by omega)]
 have hg : ∀ j t c,c5 ((k,(σ k 0).1,.mx (rows.set i (some (z,es))))::n7 k2 M) j t=some c ->
   (j=k/\t=0/\c = .mx (rows.set i (some (z,es))))\/(j=k/\t=i+1/\c = .rw z es)\/(j=k/\t≠0/\t≠i+1/\c5 M k t=some c)\/(j≠k/\j≠k2/\c5 M j t=some c):=by
  intro j t c g;by_cases hj:j=k
  ·subst hj
   cases t with
   | zero=>rw[R2]at g;exact Or.inl ⟨rfl,rfl,(Option.some.inj g).symm⟩
   | succ t =>
    simp only[c5,c7,Nat.beq_refl,cond_true]at g;by_cases np:i=t
    ·subst np
     rw[List.getElem?_set_self hi]at g;exact Or.inr (Or.inl ⟨rfl,rfl,(Option.some.inj g).symm⟩)
    ·rw[List.getElem?_set_ne np]at g
     refine Or.inr (Or.inr (Or.inl ⟨rfl,by omega,by omega,?_⟩));rcases ep with rfl|⟨v,rfl⟩
     ·simp only[c5,e]
      exact g
     ·simp only[c5,e]
      exact g
  ·rw[OY hj]at g
   obtain ⟨g1,g2⟩:=LQ g;exact Or.inr (Or.inr (Or.inr ⟨hj,g1,g2⟩))
 have hch : ∀ j t c,c5 M j t=some c->PM k c=false:=by
  intro j t c g;obtain ⟨s1,c0,g1,g2,g3⟩:=JG g;cases t with
  | zero=>rw[g2 rfl];exact kC pg _ _ _ g1
  | succ t=>obtain ⟨_,_,_,_,_,rfl⟩:=g3 t rfl;rfl
 refine ⟨λ j => ?_,⟨?_,?_,?_,?_,?_⟩⟩
 ·rw[Zt (f:=λ t=>if t=i+1 then σ k2 0 else σ k t) f0 (kF ag j)];exact h.tm j
 ·intro j s' c g
  simp only[c7]at g;cases hb:Nat.beq j k<;>simp only[hb,cond_true,cond_false]at g
  ·rw[CS _ (FH.1 hb)];exact h.sat.site _ _ _ (OX g).2
  ·simp only[Option.some.injEq,Prod.mk.injEq]at g
   rw[BJ.1 hb,BZ,<-g.1];simp
 ·intro j t c g
  rcases hg j t c g with ⟨rfl,rfl,rfl⟩|⟨rfl,rfl,rfl⟩|⟨rfl,h0,h1,g2⟩|⟨h0,h1,g2⟩
  ·rw[BZ]
   simp only[A7.c9,fm];exact YS
  ·rw[BZ]
   simp only[if_true];exact (R9 (λ he=>hk (h.sat.inj _ _ _ _ _ _ r2 r0 he).1.symm)).trans (h.sat.c9 _ _ _ r2)
  ·rw[BZ]
   simp only[h1,if_false];have hb:c.c9 (C1 σ j λ t=>if t=i+1 then σ k2 0 else σ j t) j=c.c9 σ j:=by
    obtain ⟨_,_,_,_,g3⟩:=JG g2;obtain ⟨t',rfl⟩ : ∃ t',t=t'+1:=⟨t-1,by omega⟩;obtain ⟨_,_,_,_,_,rfl⟩:=g3 t' rfl;rfl
   rw[hb];exact (R9 (λ he=>h0 (h.sat.inj _ _ _ _ _ _ g2 r0 he).2)).trans (h.sat.c9 _ _ _ g2)
  ·rw[CS _ h0,zW (f:=λ t=>if t=i+1 then σ k2 0 else σ k t) f0 (hch _ _ _ g2) h0]
   exact (R9 (λ he=>h0 (h.sat.inj _ _ _ _ _ _ g2 r0 he).1)).trans (h.sat.c9 _ _ _ g2)
 ·intro j t c g
  rw[V2];rcases hg j t c g with ⟨rfl,rfl,rfl⟩|⟨rfl,rfl,rfl⟩|⟨rfl,h0,h1,g2⟩|⟨h0,h1,g2⟩
  ·rw[BZ];simpa using h.sat.old _ _ _ r0
  ·rw[BZ];simpa using h.sat.old _ _ _ r2
  ·rw[BZ];simp only[h1,if_false];exact h.sat.old _ _ _ g2
  ·rw[CS _ h0];exact h.sat.old _ _ _ g2
 ·-- each name is that of Ab in the old memory
  have hold : ∀ j t c,c5 ((k,(σ k 0).1,.mx (rows.set i (some (z,es))))::n7 k2 M) j t=some c -> ∃ j0 t0 c0,c5 M j0 t0=some c0/\(C1 σ k λ t=>if t=i+1 then σ k2 0 else σ k t) j t=σ j0 t0/\((j0=k2/\t0=0/\j=k/\t=i+1)\/(j0=j/\t0=t/\j≠k2)):=by
   intro j t c g;rcases hg j t c g with ⟨rfl,rfl,rfl⟩|⟨rfl,rfl,rfl⟩|⟨rfl,h0,h1,g2⟩|⟨h0,h1,g2⟩
   ·exact ⟨_,_,_,r0,by rw[BZ];simp,Or.inr ⟨rfl,rfl,hk⟩⟩
   ·exact ⟨_,_,_,r2,by rw[BZ];simp,Or.inl ⟨rfl,rfl,rfl,rfl⟩⟩
   ·exact ⟨_,_,_,g2,by rw[BZ];simp [h1],Or.inr ⟨rfl,rfl,hk⟩⟩
   ·exact ⟨_,_,_,g2,by rw[CS _ h0],Or.inr ⟨rfl,rfl,h1⟩⟩
  intro j t j' t' c c' g g' hj;obtain ⟨j0,t0,c0,a1,a2,a3⟩:=hold j t c g;obtain ⟨j1,t1,c1,b1,b2,b3⟩:=hold j' t' c' g';rw[a2,b2]at hj;obtain ⟨q1,q2⟩:=h.sat.inj _ _ _ _ _ _ a1 b1 hj;rcases a3 with ⟨x1,x2,x3,x4⟩|⟨x1,x2,x3⟩<;>rcases b3 with ⟨y1,y2,y3,y4⟩|⟨y1,y2,y3⟩
  ·exact ⟨x3.trans y3.symm,x4.trans y4.symm⟩
  ·exact absurd (y1.symm.trans (q1.symm.trans x1)) y3
  ·exact absurd (x1.symm.trans (q1.trans y1)) x3
  ·exact ⟨x1.symm.trans (q1.trans y1),x2.symm.trans (q2.trans y2)⟩
 ·intro j t c g hw
  rcases hg j t c g with ⟨rfl,rfl,rfl⟩|⟨rfl,rfl,rfl⟩|⟨rfl,h0,h1,g2⟩|⟨h0,h1,g2⟩
  ·rw[BZ];simpa using h.sat.low _ _ _ r0 (by rcases ep with rfl|⟨v,rfl⟩<;>rfl)
  ·rw[BZ];simpa using h.sat.low _ _ _ r2 rfl
  ·rw[BZ];simp only[h1,if_false];exact h.sat.low _ _ _ g2 hw
  ·rw[CS _ h0];exact h.sat.low _ _ _ g2 hw
theorem RU {own:AH} {q t:Nat} {b:DY} {p:Nat × Nat} (h:p≠(q,t)) (ho:p.2<(own p.1).g7):((own.put q (((own q).n9 t none).new b)) p.1).c9 p.2=(own p.1).c9 p.2:=by
 by_cases hs:p.1=q
 ·rw[hs]at ho ⊢
  rw[AH.j5];simp only[CD.new,CD.n9];have h1 : ¬ p.2=(own q).g7:=by omega
  have h2 : ¬ p.2=t:=λ e=>h (Prod.ext hs e)
  simp only[h1,h2,if_false]
 ·rw[AH.dd _ _ _ _ hs]
theorem RV {own:AH} {q t:Nat} {b:DY} (s:Nat):(own s).g7<=((own.put q (((own q).n9 t none).new b)) s).g7:=by
 by_cases hs:s=q
 ·subst hs;rw[AH.j5];simp only[CD.new,CD.n9];omega
 ·rw[AH.dd _ _ _ _ hs];exact Nat.le_refl _
theorem RX.Fg (h:RX σ tm M st) {s key sk i z:Nat} {rows:List (Option (Nat × List (List AV)))} {es es':List (List AV)} (e:c7 M key=some (sk,.mx rows)) (hr:rows[i]? = some (some (z,es))) (hm:G1 s M=false) (ht:H7 s tm=false) :
  RX (C1 σ s λ_=>((σ key (i+1)).1,st.own.g7 (σ key (i+1)).1)) tm ((s,(σ key (i+1)).1,.rw z es')::(key,sk,.hx i (.row (σ key (i+1)).1 (σ key (i+1)).2 z 0 es.length) (rows.set i none))::n7 key M)
   ⟨st.tm,st.own.put (σ key (i+1)).1 (((st.own (σ key (i+1)).1).n9 (σ key (i+1)).2 none).new ⟨z,es'⟩)⟩:=by
 have r0:=EI e;have e1:c5 M key (i+1)=some (.rw z es):=by simp [c5,e,hr]
 have hi:i<rows.length:=(zS hr).1;have Bx:key≠s:=(O1 hm _ _ _ e).1;have fm:(B4 (C1 σ s λ_=>((σ key (i+1)).1,st.own.g7 (σ key (i+1)).1)) key 0 (rows.set i none)).set i [.row (σ key (i+1)).1 (σ key (i+1)).2 z 0 es.length]=B4 σ key 0 rows:=by
  apply List.ext_getElem?;intro j;by_cases hj:i=j
  ·subst hj
   rw[List.getElem?_set_self (by rw[E5,List.length_set];exact hi),FK,hr];simp
  ·rw[List.getElem?_set_ne hj,FK,FK,List.getElem?_set_ne hj,CS _ Bx]
 have yi : ∀ j t c',c5 M j t=some c'->HF s c'=false/\j≠s:=by
  intro j t c' g;obtain ⟨s1,c0,g1,g2,g3⟩:=JG g;obtain ⟨g4,g5⟩:=O1 hm _ _ _ g1;refine ⟨?_,g4⟩;cases t with
  | zero=>rw[g2 rfl];exact g5
  | succ i=>obtain ⟨rows,z,es,_,_,rfl⟩:=g3 i rfl;rfl
 have hg : ∀ j t c,c5 ((s,(σ key (i+1)).1,.rw z es')::(key,sk,.hx i (.row (σ key (i+1)).1 (σ key (i+1)).2 z 0 es.length) (rows.set i none))::n7 key M) j t=some c ->
   (j=s/\t=0/\c = .rw z es')\/(j=key/\t=0/\c = .hx i (.row (σ key (i+1)).1 (σ key (i+1)).2 z 0 es.length) (rows.set i none))\/(j≠s /\ ¬ (j=key/\t=0) /\ ¬ (j=key/\t=i+1)/\(j=key -> ∃ z es,c = .rw z es)/\c5 M j t=some c):=by
  intro j t c g;by_cases hj:j=s
  ·subst hj
   obtain ⟨rfl,rfl⟩:=TQ (c := .rw z es') trivial g;exact Or.inl ⟨rfl,rfl,rfl⟩
  ·rw[OY hj]at g
   by_cases hk:j=key
   ·subst hk
    cases t with
    | zero=>rw[R2]at g;exact Or.inr (Or.inl ⟨rfl,rfl,(Option.some.inj g).symm⟩)
    | succ t =>
     simp only[c5,c7,Nat.beq_refl,cond_true]at g;by_cases np:i=t
     ·subst np
      rw[List.getElem?_set_self hi]at g;cases g
     ·rw[List.getElem?_set_ne np]at g
      refine Or.inr (Or.inr ⟨hj,by omega,by omega,λ_ => ?_,?_⟩)
      ·split at g
       ·exact ⟨_,_,(Option.some.inj g).symm⟩
       ·cases g
      ·simp only[c5,e]
       exact g
   ·rw[OY hk]at g
    obtain ⟨g1,g2⟩:=LQ g;exact Or.inr (Or.inr ⟨hj,by omega,by omega,λ h=>absurd h hk,g2⟩)
 refine ⟨λ j => ?_,⟨?_,?_,?_,?_,?_⟩⟩
 ·rw[ZE (TZ ht j)];exact h.tm j
 ·intro j s1 c g
  simp only[c7]at g;cases hb:Nat.beq j s<;>simp only[hb,cond_true,cond_false]at g
  ·rw[CS _ (FH.1 hb)]
   cases o9:Nat.beq j key<;>simp only[o9,cond_true,cond_false]at g
   ·exact h.sat.site _ _ _ (OX g).2
   ·simp only[Option.some.injEq,Prod.mk.injEq]at g
    rw[BJ.1 o9,<-g.1];exact h.sat.site _ _ _ e
  ·simp only[Option.some.injEq,Prod.mk.injEq]at g
   rw[BJ.1 hb,BZ,<-g.1]
 ·intro j t c g
  rcases hg j t c g with ⟨rfl,rfl,rfl⟩|⟨rfl,rfl,rfl⟩|⟨h0,h1,h2,h3,g2⟩
  ·rw[BZ]
   simp [AH.j5,CD.new,AH.g7,CD.n9,A7.c9]
  ·rw[CS _ Bx]
   simp only[A7.c9,fm];exact (RU (λ he=>absurd (h.sat.inj _ _ _ _ _ _ r0 e1 he).2 (by omega)) (h.sat.old _ _ _ r0)).trans (h.sat.c9 _ _ _ r0)
  ·rw[CS _ h0,W5 (yi _ _ _ g2).1 h0]
   exact (RU (λ he=>h2 (h.sat.inj _ _ _ _ _ _ g2 e1 he)) (h.sat.old _ _ _ g2)).trans (h.sat.c9 _ _ _ g2)
 ·intro j t c g
  rcases hg j t c g with ⟨rfl,rfl,rfl⟩|⟨rfl,rfl,rfl⟩|⟨h0,h1,h2,h3,g2⟩
  ·rw[BZ]
   simp [AH.j5,CD.new,AH.g7,CD.n9]
  ·rw[CS _ Bx]
   exact Nat.lt_of_lt_of_le (h.sat.old _ _ _ r0) (RV _)
  ·rw[CS _ h0]
   exact Nat.lt_of_lt_of_le (h.sat.old _ _ _ g2) (RV _)
 ·have hold : ∀ j t c,c5 ((s,(σ key (i+1)).1,.rw z es')::(key,sk,.hx i (.row (σ key (i+1)).1 (σ key (i+1)).2 z 0 es.length) (rows.set i none))::n7 key M) j t=some c->(j=s/\t=0)\/(j≠s /\ ∃ c0,c5 M j t=some c0):=by
   intro j t c g;rcases hg j t c g with ⟨rfl,rfl,rfl⟩|⟨rfl,rfl,rfl⟩|⟨h0,h1,h2,h3,g2⟩
   ·exact Or.inl ⟨rfl,rfl⟩
   ·exact Or.inr ⟨Bx,_,r0⟩
   ·exact Or.inr ⟨h0,_,g2⟩
  have ju : ∀ j0 t0 c0,c5 M j0 t0=some c0->((σ key (i+1)).1,st.own.g7 (σ key (i+1)).1)≠σ j0 t0:=by
   intro j0 t0 c0 g he;have:=h.sat.old _ _ _ g
   rw[<-he]at this;exact absurd this (Nat.lt_irrefl _)
  intro j t j' t' c c' g g' hj;rcases hold j t c g with ⟨rfl,rfl⟩|⟨a1,c1,a2⟩<;>rcases hold j' t' c' g' with ⟨rfl,rfl⟩|⟨b1,c2,b2⟩
  ·exact ⟨rfl,rfl⟩
  ·rw[BZ,CS _ b1]at hj;exact absurd hj (ju _ _ _ b2)
  ·rw[BZ,CS _ a1]at hj;exact absurd hj.symm (ju _ _ _ a2)
  ·rw[CS _ a1,CS _ b1]at hj
   exact h.sat.inj _ _ _ _ _ _ a2 b2 hj
 ·intro j t c g hw
  rcases hg j t c g with ⟨rfl,rfl,rfl⟩|⟨rfl,rfl,rfl⟩|⟨h0,h1,h2,h3,g2⟩
  ·rw[BZ];exact h.sat.low _ _ _ e1 rfl
  ·rw[CS _ Bx];exact h.sat.low _ _ _ r0 rfl
  ·rw[CS _ h0];exact h.sat.low _ _ _ g2 hw
theorem RX.view (h:RX σ tm M st) {k s:Nat} {c0:A7} {rows:List (Option (Nat × List (List AV)))} {w:List Nat} (e:c7 M k=some (s,c0)) (ep:c0 = .mx rows \/ ∃ w0,c0 = .vw w0 rows) :
  RX σ tm ((k,s,.vw w rows)::M) ⟨st.tm,st.own.put s ((st.own s).n9 (σ k 0).2 (some (A7.c9 σ k (.vw w rows))))⟩:=by
 have hs:=h.sat.site _ _ _ e;subst hs;have r0:=EI e;have hg : ∀ j t c,c5 ((k,(σ k 0).1,.vw w rows)::M) j t=some c->(j=k/\t=0/\c = .vw w rows)\/(¬ (j=k/\t=0)/\c5 M j t=some c):=by
  intro j t c g;by_cases hj:j=k
  ·subst hj
   cases t with
   | zero=>rw[R2]at g;exact Or.inl ⟨rfl,rfl,(Option.some.inj g).symm⟩
   | succ t =>
    refine Or.inr ⟨by omega,?_⟩;simp only[c5,c7,Nat.beq_refl,cond_true]at g;rcases ep with rfl|⟨w0,rfl⟩
    ·simp only[c5,e]
     exact g
    ·simp only[c5,e]
     exact g
  ·rw[OY hj]at g
   exact Or.inr ⟨by omega,g⟩
 have mq : ∀ j t c1,c5 ((k,(σ k 0).1,.vw w rows)::M) j t=some c1 -> ∃ c2,c5 M j t=some c2:=by
  intro j t c1 g;rcases hg j t c1 g with ⟨rfl,rfl,rfl⟩|⟨_,h2⟩
  ·exact ⟨_,r0⟩
  ·exact ⟨_,h2⟩
 refine ⟨h.tm,⟨?_,?_,?_,?_,?_⟩⟩
 ·intro j s' c1 g
  simp only[c7]at g;cases hb:Nat.beq j k<;>simp only[hb,cond_true,cond_false]at g
  ·exact h.sat.site _ _ _ g
  ·simp only[Option.some.injEq,Prod.mk.injEq]at g
   rw[BJ.1 hb];exact g.1
 ·intro j t c1 g
  rcases hg j t c1 g with ⟨rfl,rfl,rfl⟩|⟨h1,h2⟩
  ·exact YS
  ·refine (R9 (λ he => ?_)).trans (h.sat.c9 _ _ _ h2)
   exact h1 (h.sat.inj _ _ _ _ _ _ h2 r0 he)
 ·intro j t c1 g
  obtain ⟨c2,e2⟩:=mq _ _ _ g;show (σ j t).2<((st.own.put (σ k 0).1 ((st.own (σ k 0).1).n9 (σ k 0).2 _)) (σ j t).1).g7;rw[V2];exact h.sat.old _ _ _ e2
 ·intro j t j' t' c1 c2 g1 g2 hj
  obtain ⟨_,Ai⟩:=mq _ _ _ g1;obtain ⟨_,vt⟩:=mq _ _ _ g2;exact h.sat.inj _ _ _ _ _ _ Ai vt hj
 ·intro j t c1 g hw
  rcases hg j t c1 g with ⟨rfl,rfl,rfl⟩|⟨_,h2⟩
  ·exact h.sat.low _ _ _ r0 (by rcases ep with rfl|⟨w0,rfl⟩<;>rfl)
  ·exact h.sat.low _ _ _ h2 hw
theorem RX.Fi (h:RX σ tm M st) {s key s':Nat} {rows:List (Option (Nat × List (List AV)))} (e:c7 M key=some (s',.mx rows)) (hm:G1 s M=false) (ht:H7 s tm=false) :
  RX (C1 σ s λ t=>match t with|0=>(s',st.own.g7 s')|i+1=>σ key (i+1)) tm ((s,s',.mx (rows++[none]))::n7 key M)
   ⟨st.tm,st.own.put s' (((st.own s').n9 (σ key 0).2 none).new ⟨1,B4 σ key 0 rows++[[.nil]]⟩)⟩:=by
 have hs:=h.sat.site _ _ _ e;subst hs;have r0:=EI e;generalize hF:(λ t=>match t with|0=>((σ key 0).1,st.own.g7 (σ key 0).1)|i+1=>σ key (i+1):Nat->Nat × Nat)=F;have F0:F 0=((σ key 0).1,st.own.g7 (σ key 0).1):=by rw[<-hF]
 have F1 : ∀ i,F (i+1)=σ key (i+1):=by intro i;rw[<-hF]
 have fm:B4 (C1 σ s F) s 0 (rows++[none])=B4 σ key 0 rows++[[.nil]]:=by
  apply List.ext_getElem?;intro j;rw[FK,BZ];rcases Nat.lt_trichotomy j rows.length with hj|hj|hj
  ·rw[List.getElem?_append_left hj,List.getElem?_append_left (by rw[E5];exact hj),FK]
   congr 1;funext r
   cases r with
   | none=>rfl
   | some x=>simp only[Nat.zero_add];rw[F1]
  ·subst hj
   rw[List.getElem?_append_right (Nat.le_refl _),List.getElem?_append_right (by rw[E5];exact Nat.le_refl _),E5];simp
  ·rw[List.getElem?_eq_none (by simp;omega),List.getElem?_eq_none (by simp [E5];omega)];rfl
 have yi : ∀ j t c',c5 M j t=some c'->HF s c'=false/\j≠s:=by
  intro j t c' g;obtain ⟨s1,c0,g1,g2,g3⟩:=JG g;obtain ⟨g4,g5⟩:=O1 hm _ _ _ g1;refine ⟨?_,g4⟩;cases t with
  | zero=>rw[g2 rfl];exact g5
  | succ i=>obtain ⟨rows,z,es,_,_,rfl⟩:=g3 i rfl;rfl
 have hg : ∀ j t c,c5 ((s,(σ key 0).1,.mx (rows++[none]))::n7 key M) j t=some c ->
   (j=s/\t=0/\c = .mx (rows++[none]))\/(j=s/\t≠0/\c5 M key t=some c)\/(j≠s/\j≠key/\c5 M j t=some c):=by
  intro j t c g;by_cases hj:j=s
  ·subst hj
   cases t with
   | zero=>rw[R2]at g;exact Or.inl ⟨rfl,rfl,(Option.some.inj g).symm⟩
   | succ t =>
    simp only[c5,c7,Nat.beq_refl,cond_true]at g;rcases Nat.lt_trichotomy t rows.length with jq|jq|jq
    ·rw[List.getElem?_append_left jq]at g
     refine Or.inr (Or.inl ⟨rfl,by omega,?_⟩);simp only[c5,e];exact g
    ·subst jq
     rw[List.getElem?_append_right (Nat.le_refl _),Nat.sub_self]at g;simp at g
    ·rw[List.getElem?_eq_none (by simp;omega)]at g;cases g
  ·rw[OY hj]at g
   obtain ⟨g1,g2⟩:=LQ g;exact Or.inr (Or.inr ⟨hj,g1,g2⟩)
 refine ⟨λ j => ?_,⟨?_,?_,?_,?_,?_⟩⟩
 ·rw[ZE (TZ ht j)];exact h.tm j
 ·intro j s1 c g
  simp only[c7]at g;cases hb:Nat.beq j s<;>simp only[hb,cond_true,cond_false]at g
  ·rw[CS _ (FH.1 hb)];exact h.sat.site _ _ _ (OX g).2
  ·simp only[Option.some.injEq,Prod.mk.injEq]at g
   rw[BJ.1 hb,BZ,F0,<-g.1]
 ·intro j t c g
  rcases hg j t c g with ⟨rfl,rfl,rfl⟩|⟨rfl,h0,g2⟩|⟨h0,h1,g2⟩
  ·rw[BZ,F0]
   simp only[A7.c9,fm];simp [AH.j5,CD.new,AH.g7,CD.n9]
  ·obtain ⟨t',rfl⟩ : ∃ t',t=t'+1:=⟨t-1,by omega⟩
   rw[BZ,F1];have hb:c.c9 (C1 σ j F) j=c.c9 σ key:=by
    obtain ⟨_,_,_,_,g3⟩:=JG g2;obtain ⟨_,_,_,_,_,rfl⟩:=g3 t' rfl;rfl
   rw[hb];exact (RU (λ he=>absurd (h.sat.inj _ _ _ _ _ _ g2 r0 he).2 (by omega)) (h.sat.old _ _ _ g2)).trans (h.sat.c9 _ _ _ g2)
  ·rw[CS _ h0,W5 (yi _ _ _ g2).1 h0]
   exact (RU (λ he=>h1 (h.sat.inj _ _ _ _ _ _ g2 r0 he).1) (h.sat.old _ _ _ g2)).trans (h.sat.c9 _ _ _ g2)
 ·intro j t c g
  rcases hg j t c g with ⟨rfl,rfl,rfl⟩|⟨rfl,h0,g2⟩|⟨h0,h1,g2⟩
  ·rw[BZ,F0]
   simp [AH.j5,CD.new,AH.g7,CD.n9]
  ·obtain ⟨t',rfl⟩ : ∃ t',t=t'+1:=⟨t-1,by omega⟩
   rw[BZ,F1];exact Nat.lt_of_lt_of_le (h.sat.old _ _ _ g2) (RV _)
  ·rw[CS _ h0]
   exact Nat.lt_of_lt_of_le (h.sat.old _ _ _ g2) (RV _)
 ·have hold : ∀ j t c,c5 ((s,(σ key 0).1,.mx (rows++[none]))::n7 key M) j t=some c->(j=s/\t=0) \/ ∃ j0 t0 c0,c5 M j0 t0=some c0/\C1 σ s F j t=σ j0 t0/\((j0=key/\t0=t/\j=s)\/(j0=j/\t0=t/\j≠key)):=by
   intro j t c g;rcases hg j t c g with ⟨rfl,rfl,rfl⟩|⟨rfl,h0,g2⟩|⟨h0,h1,g2⟩
   ·exact Or.inl ⟨rfl,rfl⟩
   ·obtain ⟨t',rfl⟩ : ∃ t',t=t'+1:=⟨t-1,by omega⟩
    exact Or.inr ⟨_,_,_,g2,by rw[BZ,F1],Or.inl ⟨rfl,rfl,rfl⟩⟩
   ·exact Or.inr ⟨_,_,_,g2,by rw[CS _ h0],Or.inr ⟨rfl,rfl,h1⟩⟩
  have ju : ∀ j0 t0 c0,c5 M j0 t0=some c0->C1 σ s F s 0≠σ j0 t0:=by
   intro j0 t0 c0 g he;rw[BZ,F0]at he;have:=h.sat.old _ _ _ g
   rw[<-he]at this;exact absurd this (Nat.lt_irrefl _)
  intro j t j' t' c c' g g' hj;rcases hold j t c g with ⟨rfl,rfl⟩|⟨j0,t0,c0,a1,a2,a3⟩<;>rcases hold j' t' c' g' with ⟨rfl,rfl⟩|⟨j1,t1,c1,b1,b2,b3⟩
  ·exact ⟨rfl,rfl⟩
  ·rw[b2]at hj;exact absurd hj (ju _ _ _ b1)
  ·rw[a2]at hj;exact absurd hj.symm (ju _ _ _ a1)
  ·rw[a2,b2]at hj
   obtain ⟨q1,q2⟩:=h.sat.inj _ _ _ _ _ _ a1 b1 hj;rcases a3 with ⟨x1,x2,x3⟩|⟨x1,x2,x3⟩<;>rcases b3 with ⟨y1,y2,y3⟩|⟨y1,y2,y3⟩
   ·exact ⟨x3.trans y3.symm,x2.symm.trans (q2.trans y2)⟩
   ·exact absurd (y1.symm.trans (q1.symm.trans x1)) y3
   ·exact absurd (x1.symm.trans (q1.trans y1)) x3
   ·exact ⟨x1.symm.trans (q1.trans y1),x2.symm.trans (q2.trans y2)⟩
 ·intro j t c g hw
  rcases hg j t c g with ⟨rfl,rfl,rfl⟩|⟨rfl,h0,g2⟩|⟨h0,h1,g2⟩
  ·rw[BZ,F0];exact h.sat.low _ _ _ r0 rfl
  ·obtain ⟨t',rfl⟩ : ∃ t',t=t'+1:=⟨t-1,by omega⟩
   rw[BZ,F1];exact h.sat.low _ _ _ g2 hw
  ·rw[CS _ h0];exact h.sat.low _ _ _ g2 hw
theorem aO {k:Nat} {v:AV} (h:N1 k v=false):PL k v=false:=by
 cases v with
 | row j t z o n=>simp only[N1]at h;simp only[PL,h,cond_false]
 | ptr j t a b=>simp only[N1]at h;simp only[PL,h,cond_false]
 | _=>rfl
theorem UT {k:Nat} : ∀ {cs:List AV},H6 k cs=false->OP k cs=false
 | [],_=>rfl
 | c::r,h=>by
  simp only[H6]at h;cases h1:N1 k c<;>simp only[h1,cond_true,cond_false]at h
  ·simp only[OP,aO h1,cond_false,UT h]
  ·cases h
theorem jZ {k:Nat} : ∀ {es:List (List AV)},JK k es=false->S3 k es=false
 | [],_=>rfl
 | c::r,h=>by
  simp only[JK]at h;cases h1:H6 k c<;>simp only[h1,cond_true,cond_false]at h
  ·simp only[S3,UT h1,cond_false,jZ h]
  ·cases h
theorem US {k:Nat} {v:AV} (h:P1 k v=false):RF k v=false:=by
 cases v with
 | agg cs=>exact UT h
 | fn p f g cs=>exact UT h
 | row a b c d e=>exact aO (v := .row a b c d e) h
 | ptr a b c d=>exact aO (v := .ptr a b c d) h
 | _=>rfl
theorem jY {k:Nat} : ∀ {cs:List AV},TY k cs=false->S2 k cs=false
 | [],_=>rfl
 | c::r,h=>by
  simp only[TY]at h;cases h1:P1 k c<;>simp only[h1,cond_true,cond_false]at h
  ·simp only[S2,US h1,cond_false,jY h]
  ·cases h
theorem Ov {k:Nat} {v:AV} (h:N2 k v=false):QG k v=false:=by
 cases v with
 | g8 cs=>exact jY h
 | agg cs=>exact US (v := .agg cs) h
 | fn p f g cs=>exact US (v := .fn p f g cs) h
 | row a b c d e=>exact US (v := .row a b c d e) h
 | ptr a b c d=>exact US (v := .ptr a b c d) h
 | _=>rfl
theorem kE {k:Nat} : ∀ {tm:Tm},H7 k tm=false->OQ k tm=false
 | [],_=>rfl
 | (i,v)::r,h=>by
  simp only[H7]at h;cases h1:N2 k v<;>simp only[h1,cond_true,cond_false]at h
  ·simp only[OQ,Ov h1,cond_false,kE h]
  ·cases h
theorem kD {k:Nat} : ∀ {M:Mem},G1 k M=false->KB k M=false
 | [],_=>rfl
 | (i,s,c)::r,h=>by
  simp only[G1]at h;cases h0:Nat.beq k i<;>simp only[h0,cond_true,cond_false]at h
  ·cases h1:HF k c<;>simp only[h1,cond_true,cond_false]at h
   ·have:PM k c=false:=by
     cases c with
     | bx cs=>exact UT h1
     | bs z es=>exact jZ h1
     | _=>rfl
    simp only[KB,this,cond_false,kD h]
   ·cases h
  ·cases h
theorem RX.hid {M1 M2:Mem} (hm : ∀ k,c7 M1 k=c7 M2 k) (h:RX σ tm M1 st):RX σ tm M2 st:=by
 have hr : ∀ k t,c5 M1 k t=c5 M2 k t:=λ k t=>by simp only[c5,hm]
 refine ⟨h.tm,⟨λ k s c e => ?_,λ k t c e => ?_,λ k t c e => ?_,λ k t k' t' c c' e e' => ?_,λ k t c e hw => ?_⟩⟩
 ·rw[<-hm]at e;exact h.sat.site _ _ _ e
 ·rw[<-hr]at e;exact h.sat.c9 _ _ _ e
 ·rw[<-hr]at e;exact h.sat.old _ _ _ e
 ·rw[<-hr]at e e';exact h.sat.inj _ _ _ _ _ _ e e'
 ·rw[<-hr]at e;exact h.sat.low _ _ _ e hw
theorem RX.Ji (h:RX σ tm M st) {s q k2 s2 z:Nat} {es:List (List AV)} (e2:c7 M k2=some (s2,.rw z es)) (hk:s≠k2) (hm:G1 s M=false) (ht:H7 s tm=false) (hq:E4 q=true) :
  ∃ σ',σ' s 0=(q,st.own.g7 q)/\RX σ' tm ((s,q,.mx [some (z,es)])::n7 k2 M) ⟨st.tm,st.own.put q ((st.own q).new ⟨1,[[.row (σ k2 0).1 (σ k2 0).2 z 0 es.length]]⟩)⟩:=by
 have du:A7.flat (.mx [none]):=by
  intro i x hx;cases i with
  | zero=>simp at hx
  | succ i=>simp at hx
 have h1:=h.dc (s:=s) (q:=q) hm ht (.mx [none]) du rfl (λ_=>hq);have vt:c7 ((s,q,.mx [none])::M) k2=some (s2,.rw z es):=by
  simp only[c7,FH.2 (λ e=>hk e.symm),cond_false];exact e2
 have pg:KB s ((s,q,.mx [none])::M)=false:=by simp only[KB,PM,cond_false,kD hm]
 have h2:=h1.yq (k:=s) (s:=q) (k2:=k2) (i:=0) (rows:=[none]) (c0 := .mx [none]) (by simp [c7]) (Or.inl rfl) vt hk (kE ht) pg (by simp);refine ⟨C1 σ s (λ t=>if t=0+1 then σ k2 0 else (q,st.own.g7 q)),?_,?_⟩
 ·rw[BZ];simp
 ·have hσ:(C1 (C1 σ s λ_=>(q,st.own.g7 q)) s λ t=>if t=0+1 then (C1 σ s λ_=>(q,st.own.g7 q)) k2 0 else (C1 σ s λ_=>(q,st.own.g7 q)) s t)=C1 σ s (λ t=>if t=0+1 then σ k2 0 else (q,st.own.g7 q)):=by
   funext j t
   by_cases hj:j=s
   ·subst hj;rw[BZ,BZ];simp only[BZ,CS _ (λ e=>hk e.symm)]
   ·rw[CS _ hj,CS _ hj,CS _ hj]
  rw[hσ]at h2;have hM:n7 k2 ((s,q,A7.mx [none])::M)=(s,q,.mx [none])::n7 k2 M:=by
   simp only[n7,FH.2 (λ e=>hk e.symm),cond_false]
  rw[hM]at h2;have ho : ∀ b b':DY,(st.own.put q ((st.own q).new b)).put q (((st.own.put q ((st.own q).new b)) q).n9 (st.own.g7 q) (some b'))=st.own.put q ((st.own q).new b'):=by
   intro b b';rw[AH.ig,AH.j5];congr 1;simp only[CD.n9,CD.new,AH.g7,CD.mk.injEq,true_and];funext t'
   by_cases jq:t'=(st.own q).g7<;>simp [jq]
  have hn:(C1 σ s λ_=>(q,st.own.g7 q)) s 0=(q,st.own.g7 q):=by rw[BZ]
  have ka:(C1 σ s λ_=>(q,st.own.g7 q)) k2=σ k2:=CS _ (λ e=>hk e.symm);simp only[hn,ka]at h2;rw[ho]at h2;refine RX.hid (λ k => ?_) h2;simp only[c7];cases Nat.beq k s<;>rfl
theorem RX.Fh (h:RX σ tm M st) {s key k2 ky s' s2 z:Nat} {rows:List (Option (Nat × List (List AV)))} {es:List (List AV)} (e:c7 M key=some (s',.mx rows)) (e2:c7 M k2=some (s2,.rw z es)) (hk:key≠k2) (hm:G1 s M=false) (ht:H7 s tm=false) :
  RX (C1 σ s λ t=>match t with|0=>(s',st.own.g7 s')|i+1=>if i=rows.length then σ k2 0 else σ key (i+1)) tm ((s,s',.mx (rows++[some (z,es)]))::n7 key (n7 k2 (n7 ky M)))
   ⟨st.tm,st.own.put s' (((st.own s').n9 (σ key 0).2 none).new ⟨1,B4 σ key 0 rows++[[.row (σ k2 0).1 (σ k2 0).2 z 0 es.length]]⟩)⟩:=by
 have hs:=h.sat.site _ _ _ e;subst hs;have r0:=EI e;have r2:=EI e2;generalize hF:(λ t=>match t with|0=>((σ key 0).1,st.own.g7 (σ key 0).1)|i+1=>if i=rows.length then σ k2 0 else σ key (i+1):Nat->Nat × Nat)=F;have F0:F 0=((σ key 0).1,st.own.g7 (σ key 0).1):=by rw[<-hF]
 have F1 : ∀ i,F (i+1)=if i=rows.length then σ k2 0 else σ key (i+1):=by intro i;rw[<-hF]
 have fm:B4 (C1 σ s F) s 0 (rows++[some (z,es)])=B4 σ key 0 rows++[[.row (σ k2 0).1 (σ k2 0).2 z 0 es.length]]:=by
  apply List.ext_getElem?;intro j;rw[FK,BZ];rcases Nat.lt_trichotomy j rows.length with hj|hj|hj
  ·rw[List.getElem?_append_left hj,List.getElem?_append_left (by rw[E5];exact hj),FK]
   congr 1;funext r
   cases r with
   | none=>rfl
   | some x=>simp only[Nat.zero_add];rw[F1,if_neg (by omega)]
  ·subst hj
   rw[List.getElem?_append_right (Nat.le_refl _),List.getElem?_append_right (by rw[E5];exact Nat.le_refl _),E5];simp [F1]
  ·rw[List.getElem?_eq_none (by simp;omega),List.getElem?_eq_none (by simp [E5];omega)];rfl
 have yi : ∀ j t c',c5 M j t=some c'->HF s c'=false/\j≠s:=by
  intro j t c' g;obtain ⟨s1,c0,g1,g2,g3⟩:=JG g;obtain ⟨g4,g5⟩:=O1 hm _ _ _ g1;refine ⟨?_,g4⟩;cases t with
  | zero=>rw[g2 rfl];exact g5
  | succ i=>obtain ⟨rows,z,es,_,_,rfl⟩:=g3 i rfl;rfl
 have hg : ∀ j t c,c5 ((s,(σ key 0).1,.mx (rows++[some (z,es)]))::n7 key (n7 k2 (n7 ky M))) j t=some c ->
   (j=s/\t=0/\c = .mx (rows++[some (z,es)]))\/(j=s/\t=rows.length+1/\c = .rw z es)\/(j=s/\t≠0/\t≠rows.length+1/\c5 M key t=some c)\/(j≠s/\j≠key/\j≠k2/\c5 M j t=some c):=by
  intro j t c g;by_cases hj:j=s
  ·subst hj
   cases t with
   | zero=>rw[R2]at g;exact Or.inl ⟨rfl,rfl,(Option.some.inj g).symm⟩
   | succ t =>
    simp only[c5,c7,Nat.beq_refl,cond_true]at g;rcases Nat.lt_trichotomy t rows.length with jq|jq|jq
    ·rw[List.getElem?_append_left jq]at g
     refine Or.inr (Or.inr (Or.inl ⟨rfl,by omega,by omega,?_⟩));simp only[c5,e];exact g
    ·subst jq
     rw[List.getElem?_append_right (Nat.le_refl _),Nat.sub_self]at g;exact Or.inr (Or.inl ⟨rfl,rfl,(Option.some.inj g).symm⟩)
    ·rw[List.getElem?_eq_none (by simp;omega)]at g;cases g
  ·rw[OY hj]at g
   obtain ⟨g1,g2⟩:=LQ g;obtain ⟨g3,g4⟩:=LQ g2;obtain ⟨_,g5⟩:=LQ g4;exact Or.inr (Or.inr (Or.inr ⟨hj,g1,g3,g5⟩))
 refine ⟨λ j => ?_,⟨?_,?_,?_,?_,?_⟩⟩
 ·rw[ZE (TZ ht j)];exact h.tm j
 ·intro j s1 c g
  simp only[c7]at g;cases hb:Nat.beq j s<;>simp only[hb,cond_true,cond_false]at g
  ·rw[CS _ (FH.1 hb)];exact h.sat.site _ _ _ (OX (OX (OX g).2).2).2
  ·simp only[Option.some.injEq,Prod.mk.injEq]at g
   rw[BJ.1 hb,BZ,F0,<-g.1]
 ·intro j t c g
  rcases hg j t c g with ⟨rfl,rfl,rfl⟩|⟨rfl,rfl,rfl⟩|⟨rfl,h0,h1,g2⟩|⟨h0,h1,h2,g2⟩
  ·rw[BZ,F0]
   simp only[A7.c9,fm];simp [AH.j5,CD.new,AH.g7,CD.n9]
  ·rw[BZ,F1,if_pos rfl]
   exact (RU (λ he=>hk (h.sat.inj _ _ _ _ _ _ r2 r0 he).1.symm) (h.sat.old _ _ _ r2)).trans (h.sat.c9 _ _ _ r2)
  ·obtain ⟨t',rfl⟩ : ∃ t',t=t'+1:=⟨t-1,by omega⟩
   rw[BZ,F1,if_neg (by omega)];have hb:c.c9 (C1 σ j F) j=c.c9 σ key:=by
    obtain ⟨_,_,_,_,g3⟩:=JG g2;obtain ⟨_,_,_,_,_,rfl⟩:=g3 t' rfl;rfl
   rw[hb];exact (RU (λ he=>absurd (h.sat.inj _ _ _ _ _ _ g2 r0 he).2 (by omega)) (h.sat.old _ _ _ g2)).trans (h.sat.c9 _ _ _ g2)
  ·rw[CS _ h0,W5 (yi _ _ _ g2).1 h0]
   exact (RU (λ he=>h1 (h.sat.inj _ _ _ _ _ _ g2 r0 he).1) (h.sat.old _ _ _ g2)).trans (h.sat.c9 _ _ _ g2)
 ·intro j t c g
  rcases hg j t c g with ⟨rfl,rfl,rfl⟩|⟨rfl,rfl,rfl⟩|⟨rfl,h0,h1,g2⟩|⟨h0,h1,h2,g2⟩
  ·rw[BZ,F0]
   simp [AH.j5,CD.new,AH.g7,CD.n9]
  ·rw[BZ,F1,if_pos rfl]
   exact Nat.lt_of_lt_of_le (h.sat.old _ _ _ r2) (RV _)
  ·obtain ⟨t',rfl⟩ : ∃ t',t=t'+1:=⟨t-1,by omega⟩
   rw[BZ,F1,if_neg (by omega)];exact Nat.lt_of_lt_of_le (h.sat.old _ _ _ g2) (RV _)
  ·rw[CS _ h0]
   exact Nat.lt_of_lt_of_le (h.sat.old _ _ _ g2) (RV _)
 ·have hold : ∀ j t c,c5 ((s,(σ key 0).1,.mx (rows++[some (z,es)]))::n7 key (n7 k2 (n7 ky M))) j t=some c->(j=s/\t=0) \/ ∃ j0 t0 c0,c5 M j0 t0=some c0/\C1 σ s F j t=σ j0 t0/\((j0=k2/\t0=0/\j=s/\t=rows.length+1)\/(j0=key/\t0=t/\j=s)\/(j0=j/\t0=t/\j≠key/\j≠k2)):=by
   intro j t c g;rcases hg j t c g with ⟨rfl,rfl,rfl⟩|⟨rfl,rfl,rfl⟩|⟨rfl,h0,h1,g2⟩|⟨h0,h1,h2,g2⟩
   ·exact Or.inl ⟨rfl,rfl⟩
   ·exact Or.inr ⟨_,_,_,r2,by rw[BZ,F1,if_pos rfl],Or.inl ⟨rfl,rfl,rfl,rfl⟩⟩
   ·obtain ⟨t',rfl⟩ : ∃ t',t=t'+1:=⟨t-1,by omega⟩
    exact Or.inr ⟨_,_,_,g2,by rw[BZ,F1,if_neg (by omega)],Or.inr (Or.inl ⟨rfl,rfl,rfl⟩)⟩
   ·exact Or.inr ⟨_,_,_,g2,by rw[CS _ h0],Or.inr (Or.inr ⟨rfl,rfl,h1,h2⟩)⟩
  have ju : ∀ j0 t0 c0,c5 M j0 t0=some c0->C1 σ s F s 0≠σ j0 t0:=by
   intro j0 t0 c0 g he;rw[BZ,F0]at he;have:=h.sat.old _ _ _ g
   rw[<-he]at this;exact absurd this (Nat.lt_irrefl _)
  intro j t j' t' c c' g g' hj;rcases hold j t c g with ⟨rfl,rfl⟩|⟨j0,t0,c0,a1,a2,a3⟩<;>rcases hold j' t' c' g' with ⟨rfl,rfl⟩|⟨j1,t1,c1,b1,b2,b3⟩
  ·exact ⟨rfl,rfl⟩
  ·rw[b2]at hj;exact absurd hj (ju _ _ _ b1)
  ·rw[a2]at hj;exact absurd hj.symm (ju _ _ _ a1)
  ·rw[a2,b2]at hj
   obtain ⟨q1,q2⟩:=h.sat.inj _ _ _ _ _ _ a1 b1 hj;rcases a3 with ⟨x1,x2,x3,x4⟩|⟨x1,x2,x3⟩|⟨x1,x2,x3,x4⟩<;>rcases b3 with ⟨y1,y2,y3,y4⟩|⟨y1,y2,y3⟩|⟨y1,y2,y3,y4⟩
   ·exact ⟨x3.trans y3.symm,x4.trans y4.symm⟩
   ·exact absurd (y1.symm.trans (q1.symm.trans x1)) hk
   ·exact absurd (y1.symm.trans (q1.symm.trans x1)) y4
   ·exact absurd (x1.symm.trans (q1.trans y1)) hk
   ·exact ⟨x3.trans y3.symm,x2.symm.trans (q2.trans y2)⟩
   ·exact absurd (y1.symm.trans (q1.symm.trans x1)) y3
   ·exact absurd (x1.symm.trans (q1.trans y1)) x4
   ·exact absurd (x1.symm.trans (q1.trans y1)) x3
   ·exact ⟨x1.symm.trans (q1.trans y1),x2.symm.trans (q2.trans y2)⟩
 ·intro j t c g hw
  rcases hg j t c g with ⟨rfl,rfl,rfl⟩|⟨rfl,rfl,rfl⟩|⟨rfl,h0,h1,g2⟩|⟨h0,h1,h2,g2⟩
  ·rw[BZ,F0];exact h.sat.low _ _ _ r0 rfl
  ·rw[BZ,F1,if_pos rfl];exact h.sat.low _ _ _ r2 rfl
  ·obtain ⟨t',rfl⟩ : ∃ t',t=t'+1:=⟨t-1,by omega⟩
   rw[BZ,F1,if_neg (by omega)];exact h.sat.low _ _ _ g2 hw
  ·rw[CS _ h0];exact h.sat.low _ _ _ g2 hw
theorem HW (k:IntKind) (n:Int):A8 σ (.int k n) = .int k n:=rfl
theorem HG (b:Bool):A8 σ (.bool b) = .bool b:=rfl
theorem H9 (l:Bool) (es:List (List AV)):A8 σ (.sl l es) = .sl l es:=rfl
theorem DE (k t z o n:Nat):A8 σ (.row k t z o n) = .row (σ k t).1 (σ k t).2 z o n:=rfl
theorem EA (k t i j:Nat):A8 σ (.ptr k t i j) = .ptr (σ k t).1 (σ k t).2 i j:=rfl
theorem JL (cs:List AV):A8 σ (.q8 cs) = .q8 cs:=rfl
theorem FS:A8 σ .nil = .nil:=rfl
theorem I4 (cs:List AV):A8 σ (.agg cs) = .agg (cs.map (A6 σ)):=rfl
theorem AfF (v:Value):A8 σ (.x9 v) = .x9 v:=rfl
theorem Y3 (p:Bool) (f g:Nat) (cs:List AV):A8 σ (.fn p f g cs) = .fn p f g (cs.map (A6 σ)):=rfl
theorem I5 (cs:List AV):A8 σ (.g8 cs) = .g8 (cs.map (BK σ)):=rfl
def CG.res (own:AH):CG->AV × AH
 | .val v=>(v,own)
 | .new s b f=>(f (own.g7 s),own.put s ((own s).new b))
 | .uf s b f=>(f (own.g7 s),own.put s ((own s).new b))
 | .al v o=>(v,o)
 | .n9 s x=>(.g8 [],own.put s x)
 | .rz s x v=>(v,own.put s x)
theorem aG (st:St) (d:Option Nat) (E:CG):st.app d E=⟨(st.dst d (E.res st.own).1).tm,(E.res st.own).2⟩:=by
 cases E<;>cases d<;>rfl
def BU (L:Lib) (tm:Tm) (c4:List Nat) (K:AV->Mem->Prop) (op:DR) (st:St):Prop :=
 ∃ E σ' v M',(∀ c,e8 (C4 L c) c4 st.ev st.own op=some E)/\K v M'/\(E.res st.own).1=A8 σ' v/\RX σ' tm M' ⟨st.tm,(E.res st.own).2⟩
theorem BU.val {L:Lib} {c4:List Nat} {K:AV->Mem->Prop} {op:DR} (h:RX σ tm M st) (v:AV) (he : ∀ c,e8 (C4 L c) c4 st.ev st.own op=some (.val (A8 σ v))) (hk:K v M):BU L tm c4 K op st :=
 ⟨_,σ,v,M,he,hk,rfl,h⟩
variable {L:Lib} {c4:List Nat} {K:AV->Mem->Prop}
theorem yP {x:AP} (hr:RX σ tm M st) (h:XE L tm M c4 K (.a8 x)):BU L tm c4 K (.a8 x) st:=by
 simp only[XE]at h;obtain ⟨h1,h2⟩:=XZ h;exact BU.val hr _ (λ C=>by simp only[e8,hr.ev rfl h1]) h2
theorem yV {s z:Nat} (hr:RX σ tm M st) (h:XE L tm M c4 K (.x8 s z)):BU L tm c4 K (.x8 s z) st:=by
 simp only[XE]at h;cases dj:E4 s<;>simp only[dj,cond_true,cond_false]at h;obtain ⟨k,h1,h2,h3⟩:=HZ h;refine ⟨_,_,_,_,λ C=>rfl,h3,?_,hr.dc h1 h2 (.rw z []) trivial rfl (λ_=>dj)⟩;simp only[CG.res,DE,EA,BZ]
theorem yQ {c a b:AP} (hr:RX σ tm M st) (h:XE L tm M c4 K (.pick c a b)):BU L tm c4 K (.pick c a b) st:=by
 simp only[XE]at h;split at h
 ·rename_i e
  obtain ⟨h1,h2⟩:=XZ h;exact BU.val hr _ (λ C=>by simp only[e8,hr.ev e (by intro e;cases e),hr.ev rfl h1,HW,HG,H9,DE,EA,JL,FS,I4,I5]) h2
 ·rename_i e
  obtain ⟨h1,h2⟩:=XZ h;exact BU.val hr _ (λ C=>by simp only[e8,hr.ev e (by intro e;cases e),hr.ev rfl h1,HW,HG,H9,DE,EA,JL,FS,I4,I5]) h2
 ·exact h.elim
theorem Vt {op:BinOp} {k k':IntKind} {a b:Int} {v:AV} (h:DB op k a k' b=some v):A8 σ v=v:=by
 cases op<;>simp only[DB]at h<;>split at h<;>first|(obtain rfl:=Option.some.inj h;rfl)|cases h
theorem Yu {k k':IntKind} (h:kq k k'=true):k=k':=by simpa [kq] using h
theorem zU {op:BinOp} {k k':IntKind} {a b:Int} {K:AV->Prop} (h:aI op k a k' b K) : ∃ v,DB op k a k' b=some v/\K v:=by
 have key : ∀ (p q:Prop) [Decidable p] (A B:Prop) (c:Bool),(¬ p->q)->AF p q A B->(p/\A)\/(¬ p/\B):=by
  intro p q _ A B _ hq hc;by_cases hp:p
  ·exact Or.inl ⟨hp,hc.1 hp⟩
  ·exact Or.inr ⟨hp,hc.2 (hq hp)⟩
 cases op;all_goals try (exact h)
 all_goals (
  simp only[aI]at h;cases hk:kq k k'<;>simp only[hk,cond_true,cond_false]at h;obtain rfl:=Yu hk;simp only[DB,if_true])
 ·rcases key (a=b) _ _ _ true (λ e=>e) h with ⟨h1,h2⟩|⟨h1,h2⟩
  ·exact ⟨_,rfl,by rw[show (a == b)=true by simpa using h1];exact h2⟩
  ·exact ⟨_,rfl,by rw[show (a == b)=false by simpa using h1];exact h2⟩
 ·rcases key (a≠b) _ _ _ true (λ e=>by omega) h with ⟨h1,h2⟩|⟨h1,h2⟩
  ·exact ⟨_,rfl,by rw[show (a != b)=true by simpa using h1];exact h2⟩
  ·exact ⟨_,rfl,by rw[show (a != b)=false by simpa using h1];exact h2⟩
 ·rcases key (a<b) _ _ _ true (λ e=>by omega) h with ⟨h1,h2⟩|⟨h1,h2⟩
  ·exact ⟨_,rfl,by simpa [h1] using h2⟩
  ·exact ⟨_,rfl,by simpa [h1] using h2⟩
 ·rcases key (a<=b) _ _ _ true (λ e=>by omega) h with ⟨h1,h2⟩|⟨h1,h2⟩
  ·exact ⟨_,rfl,by simpa [h1] using h2⟩
  ·exact ⟨_,rfl,by simpa [h1] using h2⟩
 ·rcases key (b<a) _ _ _ true (λ e=>by omega) h with ⟨h1,h2⟩|⟨h1,h2⟩
  ·exact ⟨_,rfl,by simpa [h1] using h2⟩
  ·exact ⟨_,rfl,by simpa [h1] using h2⟩
 ·rcases key (b<=a) _ _ _ true (λ e=>by omega) h with ⟨h1,h2⟩|⟨h1,h2⟩
  ·exact ⟨_,rfl,by simpa [h1] using h2⟩
  ·exact ⟨_,rfl,by simpa [h1] using h2⟩
theorem xZ {op:BinOp} {x y:AP} (hr:RX σ tm M st) (h:XE L tm M c4 K (.bin op x y)):BU L tm c4 K (.bin op x y) st:=by
 simp only[XE]at h;split at h
 ·rename_i k a k' b e1 e2
  obtain ⟨v,hv,hk⟩:=zU h;exact BU.val hr v (λ C=>by
   simp only[e8,hr.ev e1 (by intro e;cases e),hr.ev e2 (by intro e;cases e),HW,HG,H9,DE,EA,JL,FS,I4,I5,hv,Option.map_some];exact congrArg some (congrArg CG.val (Vt (σ:=σ) hv).symm)) hk
 ·exact h.elim
theorem xY {ne:Bool} {x y:AP} (hr:RX σ tm M st) (h:XE L tm M c4 K (.beq ne x y)):BU L tm c4 K (.beq ne x y) st:=by
 simp only[XE]at h;split at h
 ·rename_i a b e1 e2
  rw[QL]at h;exact BU.val hr _ (λ C=>by
   simp only[e8,hr.ev e1 (by intro e;cases e),hr.ev e2 (by intro e;cases e),HW,HG,H9,DE,EA,JL,FS,I4,I5];cases ne<;>rfl) h
 ·exact h.elim
theorem yU {op:UnOp} {x:AP} (hr:RX σ tm M st) (h:XE L tm M c4 K (.un op x)):BU L tm c4 K (.un op x) st:=by
 simp only[XE]at h;split at h
 ·rename_i k n e1
  obtain ⟨v,hv,hk⟩:=h;refine BU.val hr v (λ C => ?_) hk;simp only[e8,hr.ev e1 (by intro e;cases e),HW,HG,H9,DE,EA,JL,FS,I4,I5,hv,Option.map_some];cases op<;>simp only[Q1,Option.some.injEq,reduceCtorEq]at hv<;>subst hv<;>rfl
 ·rename_i b e1
  split at h
  ·rw[QL]at h
   exact BU.val hr _ (λ C=>by simp only[e8,hr.ev e1 (by intro e;cases e),HW,HG,H9,DE,EA,JL,FS,I4,I5,Q1,Option.map_some]) h
  ·exact h.elim
 ·exact h.elim
theorem yD {k:IntKind} {x:AP} (hr:RX σ tm M st) (h:XE L tm M c4 K (.conv k x)):BU L tm c4 K (.conv k x) st:=by
 simp only[XE]at h;split at h
 ·rename_i k' n e1
  exact BU.val hr _ (λ C=>by simp only[e8,hr.ev e1 (by intro e;cases e),HW,HG,H9,DE,EA,JL,FS,I4,I5]) h.h
 ·exact h.elim
theorem yA {s:Nat} {x:AP} (hr:RX σ tm M st) (h:XE L tm M c4 K (.box s x)):BU L tm c4 K (.box s x) st:=by
 simp only[XE]at h;obtain ⟨h0,cs,hc,h⟩:=XY h;obtain ⟨k,h1,h2,h3⟩:=HZ h;refine ⟨.new s (A7.c9 σ k (.bx cs)) (λ t => .ptr s t 0 0),_,_,_,λ C => ?_,h3,?_,hr.dc h1 h2 (.bx cs) trivial (sF (oD h2 x) hc) (λ h=>nomatch h)⟩
 ·simp only[e8,hr.ev rfl h0,OO hc,List.length_map,A7.c9]
 ·simp only[CG.res,DE,EA,BZ]
theorem xU {s:Nat} {z:List AV} (hr:RX σ tm M st) (h:XE L tm M c4 K (.alloc s z)):BU L tm c4 K (.alloc s z) st:=by
 simp only[XE]at h;cases hd:D5 z<;>simp only[hd,cond_true,cond_false]at h;obtain ⟨k,h1,h2,h3⟩:=HZ h;refine ⟨.new s (A7.c9 σ k (.bx z)) (λ t => .ptr s t 0 0),_,_,_,λ C => ?_,h3,?_,hr.dc h1 h2 (.bx z) trivial (aX hd) (λ h=>nomatch h)⟩
 ·simp only[e8,A7.c9,JB hd]
 ·simp only[CG.res,DE,EA,BZ]
theorem YP {cs ds:List AV} {off n:Nat} (h:part cs off n=some ds):part (cs.map (A6 σ)) off n=some (ds.map (A6 σ)):=by
 simp only[part]at h ⊢;split at h
 ·rename_i hl
  rw[if_pos (by simpa using hl)];obtain rfl:=Option.some.inj h;rw[List.map_take,List.map_drop]
 ·cases h
theorem oF {v:AV} {K:AV->Prop} (h:fF v K):v ≠ .any/\A8 σ v=A6 σ v/\K v:=by
 cases v<;>simp only[fF]at h<;>first|exact h.elim|exact ⟨(by intro e;cases e),rfl,h⟩
theorem QV (σ:FG) {agg:Bool} {ds:List AV} {K:AV->Prop} (h:my agg ds K) : ∃ v,KL agg (ds.map (A6 σ))=some (A8 σ v)/\K v:=by
 cases agg
 ·simp only[my]at h
  split at h
  ·rename_i c
   obtain ⟨_,h1,h2⟩:=oF (σ:=σ) h;exact ⟨c,by rw[h1];rfl,h2⟩
  ·exact h.elim
 ·exact ⟨.agg ds,rfl,h⟩
theorem tR {cs vs:List AV} {j:Nat}:(splice cs j vs).map (A6 σ)=splice (cs.map (A6 σ)) j (vs.map (A6 σ)):=by
 simp only[splice,List.map_append,List.map_take,List.map_drop,List.length_map]
theorem oJ (hr:RX σ tm M st) : ∀ {ps:List (Nat × Nat × AP)} {cells:List AV} {K:List AV->Prop},cQ tm ps cells K -> ∃ cs,fill (cells.map (A6 σ)) (ps.map λ p=>(p.1,p.2.1,st.ev p.2.2))=some (cs.map (A6 σ))/\K cs
 | [],cells,K,h=>⟨cells,rfl,h⟩
 | p::r,cells,K,h=>by
  obtain ⟨h0,vs,hc,h⟩:=XY (show fC (ex tm p.2.2) λ vs=>bif Nat.beq vs.length p.2.1 then bif Nat.ble (p.1+p.2.1) cells.length then fL (splice cells p.1 vs) λ cells=>cQ tm r cells K else False else False from h);cases hz:Nat.beq vs.length p.2.1<;>simp only[hz,cond_true,cond_false]at h;have hl:Nat.ble (p.1+p.2.1) cells.length=true:=by
   cases hl:Nat.ble (p.1+p.2.1) cells.length
   ·rw[hl]at h;exact h.elim
   ·rfl
  rw[hl]at h;simp only[cond_true,HN]at h;obtain ⟨cs,h1,h2⟩:=oJ hr h;refine ⟨cs,?_,h2⟩;simp only[List.map_cons,fill,hr.ev rfl h0,OO hc,List.length_map];rw[if_pos ⟨BJ.1 hz,Nat.le_of_ble_eq_true hl⟩,<-tR];exact h1
theorem yC {z:List AV} {ps:List (Nat × Nat × AP)} (hr:RX σ tm M st) (h:XE L tm M c4 K (.build z ps)):BU L tm c4 K (.build z ps) st:=by
 simp only[XE]at h;cases hd:D5 z<;>simp only[hd,cond_true,cond_false]at h;obtain ⟨cs,h1,h2⟩:=oJ hr h;refine BU.val hr (.agg cs) (λ C => ?_) h2;rw[JB hd]at h1;simp only[e8,h1];rfl
theorem oC : ∀ l:List AP,QK tm l=l.map (ex tm)
 | []=>rfl
 | x::r=>by rw[QK,oC r];rfl
theorem lG : ∀ {es:List (List AV)},U0 es=true -> ∀ e∈es,D5 e=true
 | e0::r,h,e,he=>by
  simp only[U0]at h;cases h1:D5 e0<;>simp only[h1,cond_true,cond_false]at h
  ·cases h
  ·rcases List.mem_cons.1 he with rfl|he
   ·exact h1
   ·exact lG h e he
theorem Od {es:List (List AV)} (h : ∀ e∈es,D5 e=true):(es.map λ cs=>cs.map (A6 σ))=es:=by
 conv=>rhs;rw[<-List.map_id es]
 exact List.map_congr_left λ e he=>JB (h e he)
theorem dR {es:List (List AV)} {K:Nat->Prop} (h:VP es K):K es.length:=by
 unfold VP at h;split at h<;>exact h
theorem jT (hr:RX σ tm M st) {z:Nat} : ∀ {l:List AP} {K:List (List AV)->Prop},aL tm z l K -> ∃ es,l.mapM (λ x=>cellsOf (st.ev x))=some (es.map λ cs=>cs.map (A6 σ))/\(∀ e∈es,e.length=z)/\(∀ k,H7 k tm=false->JK k es=false)/\K es
 | [],K,h=>⟨[],rfl,(λ e he=>by cases he),λ_ _=>rfl,h⟩
 | x::r,K,h=>by
  obtain ⟨h0,cs,hc,h⟩:=XY (show fC (ex tm x) λ cs=>bif Nat.beq cs.length z then aL tm z r λ es=>K (cs::es) else False from h);cases hz:Nat.beq cs.length z<;>simp only[hz,cond_true,cond_false]at h;obtain ⟨es,h1,h2,h4,h3⟩:=jT hr h;refine ⟨cs::es,?_,λ e he => ?_,λ k hk => ?_,h3⟩
  ·rw[List.mapM_cons,h1,hr.ev rfl h0,OO hc];rfl
  ·rcases List.mem_cons.1 he with rfl|he
   ·exact BJ.1 hz
   ·exact h2 e he
  ·simp only[JK,sF (oD hk x) hc,cond_false,h4 k hk]
theorem evL (hr:RX σ tm M st) {xs:List AP} (h : ∀ v∈QK tm xs,v ≠ .any):xs.map st.ev=(QK tm xs).map (A8 σ):=by
 rw[oC]at h ⊢;rw[List.map_map];exact List.map_congr_left λ x hx=>hr.ev rfl (h _ (List.mem_map_of_mem hx))
theorem yB {s z:Nat} {ps:List AP} (hr:RX σ tm M st) (h:XE L tm M c4 K (.b8 s z ps)):BU L tm c4 K (.b8 s z ps) st:=by
 simp only[XE]at h;cases dj:E4 s<;>simp only[dj,cond_true,cond_false]at h;obtain ⟨es,g1,g2,g3,h⟩:=jT hr h;obtain ⟨k,h1,h2,h3⟩:=HZ (dR h);have key : ∀ c:A7,c.flat->HF k c=false->c.c9 σ k=⟨z,es.map λ cs=>cs.map (A6 σ)⟩->K (.row k 0 z 0 es.length) ((k,s,c)::M)->BU L tm c4 K (.b8 s z ps) st:=by
  intro c hf hc hb hk;refine ⟨.new s (c.c9 σ k) (λ t => .row s t z 0 es.length),_,_,_,λ C => ?_,hk,?_,hr.dc h1 h2 c hf hc (λ_=>dj)⟩
  ·simp only[e8,g1,hb]
   rw[if_pos (λ e he=>by obtain ⟨e',cr,rfl⟩:=List.mem_map.1 he;simpa using g2 e' cr)];simp only[List.length_map]
  ·simp only[CG.res,DE,BZ]
 cases hd:U0 es<;>simp only[hd,cond_true,cond_false]at h3
 ·exact key (.bs z es) trivial (g3 k h2) rfl h3
 ·exact key (.rw z es) trivial rfl (by simp only[A7.c9];rw[Od (lG hd)]) h3
theorem yF {x:AP} {off:Nat} (hr:RX σ tm M st) (h:XE L tm M c4 K (.a5 x off)):BU L tm c4 K (.a5 x off) st:=by
 simp only[XE]at h;split at h
 ·rename_i key t i j e
  exact BU.val hr _ (λ C=>by simp only[e8,hr.ev e (by intro e;cases e),HW,HG,H9,DE,EA,JL,FS,I4,I5]) h
 ·rename_i cs e
  rw[HN]at h;exact BU.val hr _ (λ C=>by simp only[e8,hr.ev e (by intro e;cases e),HW,HG,H9,DE,EA,JL,FS,I4,I5]) h
 ·exact h.elim
theorem yG {x:AP} {off n:Nat} {agg:Bool} (hr:RX σ tm M st) (h:XE L tm M c4 K (.jy x off n agg)):BU L tm c4 K (.jy x off n agg) st:=by
 simp only[XE]at h;split at h
 ·rename_i cs e
  split at h
  ·rename_i ds hp
   rw[HN]at h;obtain ⟨v,h1,h2⟩:=QV σ h;exact BU.val hr v (λ C=>by simp only[e8,hr.ev e (by intro e;cases e),I4,YP hp,h1,Option.map_some]) h2
  ·exact h.elim
 ·exact h.elim
theorem yI {arr:Option Nat} {z:Nat} {x i:AP} (hr:RX σ tm M st) (h:XE L tm M c4 K (.a7 arr z x i)):BU L tm c4 K (.a7 arr z x i) st:=by
 simp only[XE]at h;split at h
 ·rename_i kd n e1
  split at h
  ·rename_i len key t i' j e2
   obtain ⟨h1,h2⟩:=h;exact BU.val hr _ (λ C=>by simp only[e8,hr.ev e1 (by intro e;cases e),hr.ev e2 (by intro e;cases e),HW,HG,H9,DE,EA,JL,FS,I4,I5];rw[if_pos h1]) h2
  ·rename_i len cs e2
   obtain ⟨h1,h2⟩:=h;rw[HN]at h2;exact BU.val hr _ (λ C=>by simp only[e8,hr.ev e1 (by intro e;cases e),hr.ev e2 (by intro e;cases e),HW,HG,H9,DE,EA,JL,FS,I4,I5];rw[if_pos h1]) h2
  ·rename_i key t z' off len e2
   cases hz:Nat.beq z' z<;>simp only[hz,cond_true,cond_false]at h;obtain ⟨h1,h2⟩:=h;exact BU.val hr _ (λ C=>by simp only[e8,hr.ev e1 (by intro e;cases e),hr.ev e2 (by intro e;cases e),HW,HG,H9,DE,EA,JL,FS,I4,I5];rw[if_pos ⟨h1.1,h1.2,BJ.1 hz⟩]) h2
  ·rename_i q es e2
   obtain ⟨h1,cs,h2,h3,h4⟩:=h;exact BU.val hr _ (λ C=>by simp only[e8,hr.ev e1 (by intro e;cases e),hr.ev e2 (by intro e;cases e),HW,HG,H9,DE,EA,JL,FS,I4,I5,h2];rw[if_pos h1,if_pos h3]) h4
  ·exact h.elim
 ·exact h.elim
theorem TT {s:Nat} {own:AH} : ∀ {c4:List Nat},QW s c4=true->own.m5 c4 s=own s
 | [],_=>rfl
 | b::r,h=>by
  have hm:JS s (b::r)=false:=by simpa [QW] using h
  have : ∀ l:List Nat,JS s l=false->own.m5 l s=own s:=by
   intro l;induction l with
   | nil=>intro _;rfl
   | cons b r ih =>
    intro h;simp only[JS]at h;cases hb:Nat.beq s b<;>simp only[hb,cond_true,cond_false]at h
    ·simp only[AH.m5]
     rw[if_neg (FH.1 hb)];exact ih h
    ·cases h
  exact this _ hm
theorem eJ {s:Nat} {own:AH} (hs:E4 s=true) : ∀ {c4:List Nat},R5 c4=true->own.m5 c4 s=own s
 | [],_=>rfl
 | b::r,h=>by
  simp only[R5]at h;cases hb:E4 b<;>simp only[hb,cond_true,cond_false]at h
  ·have l9:s≠b:=λ e=>by rw[e,hb]at hs;cases hs
   show (if s=b then _ else own.m5 r s)=own s;rw[if_neg l9];exact eJ hs h
  ·cases h
theorem yK {agg:Bool} {n:Nat} {x:AP} (hr:RX σ tm M st) (h:XE L tm M c4 K (.ld agg n x)):BU L tm c4 K (.ld agg n x) st:=by
 simp only[XE]at h;split at h
 ·rename_i key t i j e
  split at h
  ·rename_i s c hm
   have hs:=hr.sat.site _ _ _ hm;split at h
   ·cases hb:QW s c4<;>simp only[hb,cond_true,cond_false]at h
    have w3:=hr.sat.c9 _ _ _ (EI hm);rw[hs]at w3;split at h
    ·rename_i cs
     cases hi:Nat.beq i 0<;>simp only[hi,cond_true,cond_false]at h;obtain rfl:=BJ.1 hi;split at h
     ·rename_i ds hp
      rw[HN]at h;obtain ⟨v,h1,h2⟩:=QV σ h;exact BU.val hr v (λ C=>by
       simp only[e8,hr.ev e (by intro e;cases e),EA,AH.ma,AH.get,hs];rw[TT hb,w3];simp only[A7.c9,List.getElem?_cons_zero,YP hp,h1,Option.map_some]) h2
     ·exact h.elim
    ·rename_i z es
     obtain ⟨cs,ds,g1,g2,h⟩:=h;rw[HN]at h;cases hd:D5 ds<;>simp only[hd,cond_true,cond_false]at h;obtain ⟨v,h1,h2⟩:=QV σ h;rw[JB hd]at h1;exact BU.val hr v (λ C=>by
      simp only[e8,hr.ev e (by intro e;cases e),EA,AH.ma,AH.get,hs];rw[TT hb,w3];simp only[A7.c9,g1,g2,h1,Option.map_some]) h2
    ·rename_i z es
     split at h
     ·rename_i cs g1
      split at h
      ·rename_i ds hp
       rw[HN]at h;obtain ⟨v,h1,h2⟩:=QV σ h;exact BU.val hr v (λ C=>by
        simp only[e8,hr.ev e (by intro e;cases e),EA,AH.ma,AH.get,hs];rw[TT hb,w3];simp only[A7.c9,List.getElem?_map,g1,Option.map_some,YP hp,h1]) h2
      ·exact h.elim
     ·exact h.elim
    ·rename_i rows
     cases hj:Nat.beq j 0<;>simp only[hj,cond_true,cond_false]at h;cases hn:Nat.beq n 1<;>simp only[hn,cond_true,cond_false]at h;obtain rfl:=BJ.1 hj;obtain rfl:=BJ.1 hn;obtain ⟨r,g1,h⟩:=h;have fin : ∀ c:AV,(B4 σ key 0 rows)[i]? = some [A6 σ c]->my agg [c] (λ v=>K v M)->BU L tm c4 K (.ld agg 1 x) st:=by
      intro c hc h;obtain ⟨v,h1,h2⟩:=QV σ h;have hp:part [A6 σ c] 0 1=some [A6 σ c]:=by simp [part]
      exact BU.val hr v (λ C=>by
       simp only[e8,hr.ev e (by intro e;cases e),EA,AH.ma,AH.get,hs];rw[TT hb,w3];simp only[A7.c9,hc,hp];simp only[List.map_cons,List.map_nil]at h1;simp only[h1,Option.map_some]) h2
     split at h
     ·rename_i z es
      exact fin _ (by rw[FK,g1];simp [A6]) h
     ·exact fin _ (by rw[FK,g1];simp [A6]) h
    ·exact h.elim
    ·exact h.elim
   ·rename_i i'
    split at h
    ·rename_i rows
     obtain ⟨z,es,g0,cs,ds,g1,g2,h⟩:=h;rw[HN]at h;cases hd:D5 ds<;>simp only[hd,cond_true,cond_false]at h;obtain ⟨v,h1,h2⟩:=QV σ h;rw[JB hd]at h1;have w3:=hr.sat.c9 key (i'+1) (.rw z es) (by simp [c5,hm,g0]);exact BU.val hr v (λ C=>by
      simp only[e8,hr.ev e (by intro e;cases e),EA,AH.ma,AH.get,AH.m5];rw[w3];simp only[A7.c9,g1,g2,h1,Option.map_some]) h2
    ·rename_i rows b r
     cases hb:R5 (b::r)<;>simp only[hb,cond_true,cond_false]at h;obtain ⟨z,es,g0,cs,ds,g1,g2,h⟩:=h;rw[HN]at h;cases hd:D5 ds<;>simp only[hd,cond_true,cond_false]at h;obtain ⟨v,h1,h2⟩:=QV σ h;rw[JB hd]at h1;have g':c5 M key (i'+1)=some (.rw z es):=by simp [c5,hm,g0]
     have w3:=hr.sat.c9 key (i'+1) (.rw z es) g';have dj:=hr.sat.low key (i'+1) _ g' rfl;exact BU.val hr v (λ C=>by
      simp only[e8,hr.ev e (by intro e;cases e),EA,AH.ma,AH.get];rw[eJ dj hb,w3];simp only[A7.c9,g1,g2,h1,Option.map_some]) h2
    ·exact h.elim
  ·exact h.elim
 ·rename_i cs e
  split at h
  ·rename_i ds hp
   rw[HN]at h;cases hd:D5 ds<;>simp only[hd,cond_true,cond_false]at h;obtain ⟨v,h1,h2⟩:=QV σ h;rw[JB hd]at h1;exact BU.val hr v (λ C=>by simp only[e8,hr.ev e (by intro e;cases e),JL,hp,h1,Option.map_some]) h2
  ·exact h.elim
 ·exact h.elim
theorem jC {n:Nat} {x v:AP} (hr:RX σ tm M st) (h:XE L tm M c4 K (.st n x v)):BU L tm c4 K (.st n x v) st:=by
 simp only[XE,gT]at h;split at h
 ·rename_i key t i j e
  obtain ⟨h0,vs,hc,h5⟩:=XY h;clear h;cases hn:Nat.beq vs.length n<;>simp only[hn,cond_true,cond_false]at h5;have mv:=BJ.1 hn;split at h5
  ·rename_i s c hm
   have hs:=hr.sat.site _ _ _ hm;split at h5
   ·have w3:=hr.sat.c9 _ _ _ (EI hm)
    rw[hs]at w3;split at h5
    ·rename_i cs
     cases hi:Nat.beq i 0<;>simp only[hi,cond_true,cond_false]at h5;obtain rfl:=BJ.1 hi;have hl:Nat.ble (j+vs.length) cs.length=true:=by
      cases hl:Nat.ble (j+vs.length) cs.length
      ·rw[hl]at h5;exact h5.elim
      ·rfl
     rw[hl]at h5;simp only[cond_true,HN]at h5;refine ⟨.al (.g8 []) (st.own.put s ((st.own s).n9 (σ key 0).2 (some (A7.c9 σ key (.bx (splice cs j vs)))))),σ,_,_,λ C => ?_,h5,rfl,hr.Jl hm trivial _ trivial (λ h=>nomatch h)⟩;simp only[e8,hr.ev e (by intro e;cases e),EA,hr.ev rfl h0,OO hc,List.length_map];rw[if_pos mv];simp only[AH.ij,AH.get,hs,w3,A7.c9,List.getElem?_cons_zero,List.length_map];rw[if_pos (Nat.le_of_ble_eq_true hl)];simp only[Option.map_some,List.set_cons_zero,tR];have:(splice cs j vs).length=cs.length:=by
      have:=Nat.le_of_ble_eq_true hl
      simp only[splice,List.length_append,List.length_take,List.length_drop];omega
     rw[this]
    ·rename_i z es
     cases hd:D5 vs<;>simp only[hd,cond_true,cond_false]at h5;obtain ⟨cs,g1,g2,h5⟩:=h5;refine ⟨.al (.g8 []) (st.own.put s ((st.own s).n9 (σ key 0).2 (some (A7.c9 σ key (.rw z (es.set i (splice cs j vs))))))),σ,_,_,λ C => ?_,h5,rfl,hr.Jl hm trivial _ trivial (λ_=>rfl)⟩;simp only[e8,hr.ev e (by intro e;cases e),EA,hr.ev rfl h0,OO hc,JB hd];rw[if_pos mv];simp only[AH.ij,AH.get,hs,w3,A7.c9,g1];rw[if_pos g2];rfl
    ·exact h5.elim
    ·rename_i rows
     split at h5
     ·rename_i u9 z m
      cases fg:Nat.beq key u9<;>simp only[fg,cond_true,cond_false]at h5;cases ag:OQ key tm<;>simp only[ag,cond_true,cond_false]at h5;cases pg:KB key M<;>simp only[pg,cond_true,cond_false]at h5;cases hj:Nat.beq j 0<;>simp only[hj,cond_true,cond_false]at h5;obtain rfl:=BJ.1 hj;split at h5
      ·rename_i s2 z' es fh
       cases hz:Nat.beq z z'<;>simp only[hz,cond_true,cond_false]at h5;obtain rfl:=BJ.1 hz;rw[OW]at h5;obtain ⟨rfl,hi,h5⟩:=h5;have hlen:(B4 σ key 0 rows)[i]? = some ((B4 σ key 0 rows)[i]'(by rw[E5];exact hi)):=zE _;have gy:((B4 σ key 0 rows)[i]'(by rw[E5];exact hi)).length=1:=by
        have:=FK (σ:=σ) (k:=key) rows 0 i
        rw[hlen,zE hi]at this;simp only[Option.map_some,Option.some.injEq]at this;rw[this];split<;>rfl
       refine ⟨.al (.g8 []) (st.own.put s ((st.own s).n9 (σ key 0).2 (some ⟨1,(B4 σ key 0 rows).set i [.row (σ u9 0).1 (σ u9 0).2 z 0 es.length]⟩))),_,_,_,λ C => ?_,h5,rfl,hr.yq hm (Or.inl rfl) fh (FH.1 fg) ag pg hi⟩;simp only[e8,hr.ev e (by intro e;cases e),EA,hr.ev rfl h0,OO hc,List.length_map];rw[if_pos mv];simp only[AH.ij,AH.get,hs,w3,A7.c9,hlen,List.map_cons,List.map_nil,List.length_cons,List.length_nil,A6];rw[if_pos (by omega)];simp only[Option.map_some];have Cs:splice ((B4 σ key 0 rows)[i]'(by rw[E5];exact hi)) 0 [.row (σ u9 0).1 (σ u9 0).2 z 0 es.length]=[.row (σ u9 0).1 (σ u9 0).2 z 0 es.length]:=by
        simp only[splice,List.take_zero,List.nil_append,List.length_cons,List.length_nil,Nat.zero_add];rw[List.drop_of_length_le (by omega)];rfl
       rw[Cs]
      ·exact h5.elim
     ·rename_i u9 t2 z m
      cases fg:Nat.beq key u9<;>simp only[fg,cond_true,cond_false]at h5;cases hj:Nat.beq j 0<;>simp only[hj,cond_true,cond_false]at h5;obtain rfl:=BJ.1 hj;obtain rfl:=BJ.1 fg;obtain ⟨z',es,g0,h5⟩:=h5;cases hz:Nat.beq z z'<;>simp only[hz,cond_true,cond_false]at h5;obtain rfl:=BJ.1 hz;obtain ⟨⟨rfl,hi⟩,h5⟩:=h5;have o9:A7.c9 σ key (.vw ((List.range rows.length).set i t2) rows)=⟨1,(B4 σ key 0 rows).set i [.row (σ key (t2+1)).1 (σ key (t2+1)).2 z 0 es.length]⟩:=by
       simp only[A7.c9];congr 1;apply List.ext_getElem?;intro p;rw[List.getElem?_map];by_cases hp:i=p
       ·subst hp
        rw[List.getElem?_set_self (by rw[List.length_range];exact hi),List.getElem?_set_self (by rw[E5];exact hi),Option.map_some,FK,g0];simp
       ·rw[List.getElem?_set_ne hp,List.getElem?_set_ne hp,FK]
        by_cases ye:p<rows.length
        ·rw[List.getElem?_range ye,Option.map_some,FK,zE ye,Option.map_some,Option.getD_some]
        ·rw[List.getElem?_eq_none (by rw[List.length_range];omega),List.getElem?_eq_none (by omega)];rfl
      have hv:=hr.view (w:=(List.range rows.length).set i t2) hm (Or.inl rfl);have hlen:(B4 σ key 0 rows)[i]? = some ((B4 σ key 0 rows)[i]'(by rw[E5];exact hi)):=zE _;have gy:((B4 σ key 0 rows)[i]'(by rw[E5];exact hi)).length=1:=by
       have:=FK (σ:=σ) (k:=key) rows 0 i
       rw[hlen,zE hi]at this;simp only[Option.map_some,Option.some.injEq]at this;rw[this];split<;>rfl
      refine ⟨.al (.g8 []) (st.own.put s ((st.own s).n9 (σ key 0).2 (some (A7.c9 σ key (.vw ((List.range rows.length).set i t2) rows))))),_,_,_,λ C => ?_,h5,rfl,hv⟩;rw[o9];simp only[e8,hr.ev e (by intro e;cases e),EA,hr.ev rfl h0,OO hc,List.length_map];rw[if_pos mv];simp only[AH.ij,AH.get,hs,w3,A7.c9,hlen,List.map_cons,List.map_nil,List.length_cons,List.length_nil,A6];rw[if_pos (by omega)];simp only[Option.map_some];have Cs:splice ((B4 σ key 0 rows)[i]'(by rw[E5];exact hi)) 0 [.row (σ key (t2+1)).1 (σ key (t2+1)).2 z 0 es.length]=[.row (σ key (t2+1)).1 (σ key (t2+1)).2 z 0 es.length]:=by
       simp only[splice,List.take_zero,List.nil_append,List.length_cons,List.length_nil,Nat.zero_add];rw[List.drop_of_length_le (by omega)];rfl
      rw[Cs]
     ·exact h5.elim
    ·rename_i i0 v0 rows
     split at h5
     ·rename_i u9 z m
      cases fg:Nat.beq key u9<;>simp only[fg,cond_true,cond_false]at h5;cases ag:OQ key tm<;>simp only[ag,cond_true,cond_false]at h5;cases pg:KB key M<;>simp only[pg,cond_true,cond_false]at h5;cases hj:Nat.beq j 0<;>simp only[hj,cond_true,cond_false]at h5;obtain rfl:=BJ.1 hj;split at h5
      ·rename_i s2 z' es fh
       cases hz:Nat.beq z z'<;>simp only[hz,cond_true,cond_false]at h5;obtain rfl:=BJ.1 hz;rw[OW]at h5;obtain ⟨⟨rfl,rfl⟩,hi,h5⟩:=h5;refine ⟨.al (.g8 []) (st.own.put s ((st.own s).n9 (σ key 0).2 (some ⟨1,(B4 σ key 0 rows).set i [.row (σ u9 0).1 (σ u9 0).2 z 0 es.length]⟩))),_,_,_,λ C => ?_,h5,rfl,hr.yq hm (Or.inr ⟨v0,rfl⟩) fh (FH.1 fg) ag pg hi⟩;simp only[e8,hr.ev e (by intro e;cases e),EA,hr.ev rfl h0,OO hc,List.length_map];rw[if_pos mv];simp only[AH.ij,AH.get,hs,w3,A7.c9,List.getElem?_set_self (show i<(B4 σ key 0 rows).length by rw[E5];exact hi),List.map_cons,List.map_nil,List.length_cons,List.length_nil,A6];rw[if_pos (by omega)];simp only[Option.map_some,List.set_set];rfl
      ·exact h5.elim
     ·exact h5.elim
    ·rename_i w rows
     split at h5
     ·rename_i u9 t2 z m
      cases fg:Nat.beq key u9<;>simp only[fg,cond_true,cond_false]at h5;cases hj:Nat.beq j 0<;>simp only[hj,cond_true,cond_false]at h5;obtain rfl:=BJ.1 hj;obtain rfl:=BJ.1 fg;obtain ⟨z',es,g0,h5⟩:=h5;cases hz:Nat.beq z z'<;>simp only[hz,cond_true,cond_false]at h5;obtain rfl:=BJ.1 hz;obtain ⟨⟨rfl,hi,hwr⟩,h5⟩:=h5;have o9:A7.c9 σ key (.vw (w.set i t2) rows)=⟨1,(w.map λ t=>((B4 σ key 0 rows)[t]?).getD []).set i [.row (σ key (t2+1)).1 (σ key (t2+1)).2 z 0 es.length]⟩:=by
       simp only[A7.c9];congr 1;apply List.ext_getElem?;intro p;rw[List.getElem?_map];by_cases hp:i=p
       ·subst hp
        rw[List.getElem?_set_self hi,List.getElem?_set_self (by rw[List.length_map];exact hi),Option.map_some,FK,g0];simp
       ·rw[List.getElem?_set_ne hp,List.getElem?_set_ne hp,List.getElem?_map]
      have hv:=hr.view (w:=w.set i t2) hm (Or.inr ⟨w,rfl⟩);have hlen:(w.map λ t=>((B4 σ key 0 rows)[t]?).getD [])[i]? = some ((w.map λ t=>((B4 σ key 0 rows)[t]?).getD [])[i]'(by rw[List.length_map];exact hi)):=zE _;have gy:((w.map λ t=>((B4 σ key 0 rows)[t]?).getD [])[i]'(by rw[List.length_map];exact hi)).length=1:=by
       rw[List.getElem_map];have k6:=hwr w[i] (List.getElem_mem hi);rw[FK,zE k6];simp only[Option.map_some,Option.getD_some];split<;>rfl
      refine ⟨.al (.g8 []) (st.own.put s ((st.own s).n9 (σ key 0).2 (some (A7.c9 σ key (.vw (w.set i t2) rows))))),_,_,_,λ C => ?_,h5,rfl,hv⟩;rw[o9];simp only[e8,hr.ev e (by intro e;cases e),EA,hr.ev rfl h0,OO hc,List.length_map];rw[if_pos mv];simp only[AH.ij,AH.get,hs,w3,A7.c9,hlen,List.map_cons,List.map_nil,List.length_cons,List.length_nil,A6];rw[if_pos (by omega)];simp only[Option.map_some];have Cs:splice ((w.map λ t=>((B4 σ key 0 rows)[t]?).getD [])[i]'(by rw[List.length_map];exact hi)) 0 [.row (σ key (t2+1)).1 (σ key (t2+1)).2 z 0 es.length]=[.row (σ key (t2+1)).1 (σ key (t2+1)).2 z 0 es.length]:=by
       simp only[splice,List.take_zero,List.nil_append,List.length_cons,List.length_nil,Nat.zero_add];rw[List.drop_of_length_le (by omega)];rfl
      rw[Cs]
     ·exact h5.elim
   ·rename_i i'
    split at h5
    ·rename_i rows
     cases hd:D5 vs<;>simp only[hd,cond_true,cond_false]at h5;obtain ⟨z,es,g0,cs,g1,g2,g3,h5⟩:=h5;have w3:=hr.sat.c9 key (i'+1) (.rw z es) (by simp [c5,hm,g0]);refine ⟨.al (.g8 []) (st.own.put (σ key (i'+1)).1 ((st.own (σ key (i'+1)).1).n9 (σ key (i'+1)).2 (some ⟨z,es.set i (splice cs j vs)⟩))),σ,_,_,λ C => ?_,h5,rfl,hr.Jj hm g0 g3⟩;simp only[e8,hr.ev e (by intro e;cases e),EA,hr.ev rfl h0,OO hc,JB hd];rw[if_pos mv];simp only[AH.ij,AH.get,w3,A7.c9,g1];rw[if_pos g2];rfl
    ·exact h5.elim
  ·exact h5.elim
 ·exact h.elim
theorem yM {s z bytes:Nat} {zero:List AV} {a c:AP} (hr:RX σ tm M st) (h:XE L tm M c4 K (.mk s z bytes zero a c)):BU L tm c4 K (.mk s z bytes zero a c) st:=by
 simp only[XE]at h;split at h
 ·rename_i k1 p k2 q e1 e2
  cases hz:Nat.beq zero.length z<;>simp only[hz,cond_true,cond_false]at h;cases hd:D5 zero<;>simp only[hd,cond_true,cond_false]at h;split at h
  ·cases dj:E4 s<;>simp only[dj,cond_true,cond_false]at h
   obtain ⟨⟨g1,g2,g3,g4⟩,h⟩:=h;obtain ⟨k,h1,h2,h3⟩:=HZ h;have du:A7.flat (.mx (List.replicate p.toNat none)):=by
    intro i x hx;have:=List.getElem?_replicate (n:=p.toNat) (a:=(none:Option (Nat × List (List AV)))) (i:=i)
    rw[this]at hx;split at hx<;>cases hx
   have fw:z=1:=(BJ.1 hz).symm;have lj:A7.c9 σ k (.mx (List.replicate p.toNat none))=⟨z,List.replicate p.toNat [.nil]⟩:=by
    simp only[A7.c9,fw];congr 1;have : ∀ (n i:Nat),B4 σ k i (List.replicate n none)=List.replicate n [AV.nil]:=by
     intro n;induction n with
     | zero=>intro i;rfl
     | succ n ih=>intro i;rw[List.replicate_succ,List.replicate_succ,B4,ih]
    exact this _ _
   refine ⟨.new s (A7.c9 σ k (.mx (List.replicate p.toNat none))) (λ t => .row s t z 0 p.toNat),_,_,_,λ C => ?_,h3,?_,hr.dc h1 h2 (.mx _) du rfl (λ_=>dj)⟩
   ·simp only[e8,hr.ev e1 (by intro e;cases e),hr.ev e2 (by intro e;cases e),HW,lj]
    rw[if_pos ⟨g1,g2,g3,g4,BJ.1 hz⟩]
   ·simp only[CG.res,DE,BZ]
  ·cases dj:E4 s<;>simp only[dj,cond_true,cond_false]at h
   obtain ⟨⟨g1,g2,g3,g4⟩,h⟩:=h;obtain ⟨k,h1,h2,h3⟩:=HZ h;refine ⟨.new s ⟨z,List.replicate p.toNat zero⟩ (λ t => .row s t z 0 p.toNat),_,_,_,λ C => ?_,h3,?_,hr.dc h1 h2 (.rw z _) trivial rfl (λ_=>dj)⟩
   ·simp only[e8,hr.ev e1 (by intro e;cases e),hr.ev e2 (by intro e;cases e),HW]
    rw[if_pos ⟨g1,g2,g3,g4,BJ.1 hz⟩]
   ·simp only[CG.res,DE,BZ]
 ·exact h.elim
theorem oE {v:AV} {K:AV->Prop} (h:f2 v K):v ≠ .any/\A8 σ v=BK σ v/\K v:=by
 cases v<;>simp only[f2,HN]at h<;>first|exact h.elim|exact ⟨(by intro e;cases e),rfl,h⟩
theorem pU : ∀ (vs:List AV) (i:Nat),ub vs i ≠ .any->vs[i]? = some (ub vs i)
 | [],_,h=>absurd rfl h
 | _::_,0,_=>rfl
 | _::r,i+1,h=>pU r i h
theorem yE {x:AP} {i:Nat} (hr:RX σ tm M st) (h:XE L tm M c4 K (.ext x i)):BU L tm c4 K (.ext x i) st:=by
 simp only[XE]at h;split at h
 ·rename_i vs e
  obtain ⟨h1,h2,h3⟩:=oE (σ:=σ) h;refine BU.val hr _ (λ C => ?_) h3;simp only[e8,hr.ev e (by intro e;cases e),I5,List.getElem?_map,pU vs i h1,Option.map_some,h2]
 ·exact h.elim
theorem yL {x:AP} (hr:RX σ tm M st) (h:XE L tm M c4 K (.len x)):BU L tm c4 K (.len x) st:=by
 simp only[XE]at h;split at h
 ·rename_i q es e
  exact BU.val hr _ (λ C=>by simp only[e8,hr.ev e (by intro e;cases e),H9,PX];rfl) h.h
 ·rename_i e
  exact BU.val hr _ (λ C=>by simp only[e8,hr.ev e (by intro e;cases e),FS,PX];rfl) h
 ·rename_i e
  exact BU.val hr _ (λ C=>by simp only[e8,hr.ev e (by intro e;cases e),DE,PX];rfl) h
 ·exact h.elim
theorem qU {mx:Bool} {k:IntKind} {K:AV->Prop} : ∀ {l:List AV} {a:Int},R1 mx k K a l -> ∃ n,KI mx (.int k a) l=some (.int k n)/\K (.int k n)/\(∀ v∈l,v ≠ .any/\A8 σ v=v)
 | [],a,h=>⟨a,rfl,h,λ v hv=>by cases hv⟩
 | v::r,a,h=>by
  cases v with
  | int k' b =>
   have h:(bif mx then AF (a<b) (b<=a) (R1 mx k K b r) (R1 mx k K a r) else AF (b<a) (a<=b) (R1 mx k K b r) (R1 mx k K a r)):=h;have fin : ∀ c:Int,PZ mx (.int k a) (.int k' b)=some (.int k c)->R1 mx k K c r -> ∃ n,KI mx (.int k a) (.int k' b::r)=some (.int k n)/\K (.int k n)/\(∀ v∈AV.int k' b::r,v ≠ .any/\A8 σ v=v):=by
    intro c hc hx;obtain ⟨n,h1,h2,h3⟩:=qU hx;refine ⟨n,by simp only[KI,hc,h1],h2,λ v hv => ?_⟩;rcases List.mem_cons.1 hv with rfl|hv
    ·exact ⟨(by intro e;cases e),rfl⟩
    ·exact h3 v hv
   cases mx
   ·simp only[cond_false]at h
    by_cases hc:b<a
    ·exact fin b (by simp [PZ,hc]) (h.1 hc)
    ·exact fin a (by simp [PZ,hc]) (h.2 (by omega))
   ·simp only[cond_true]at h
    by_cases hc:a<b
    ·exact fin b (by simp [PZ,hc]) (h.1 hc)
    ·exact fin a (by simp [PZ,hc]) (h.2 (by omega))
  | _=>exact (h:False).elim
theorem yO {mx:Bool} {xs:List AP} (hr:RX σ tm M st) (h:XE L tm M c4 K (.mm mx xs)):BU L tm c4 K (.mm mx xs) st:=by
 simp only[XE]at h;split at h
 ·rename_i k a r e
  obtain ⟨n,h1,h2,h3⟩:=qU (σ:=σ) h;refine BU.val hr (.int k n) (λ C => ?_) h2;have hx : ∀ v∈QK tm xs,v ≠ .any:=by
   rw[e];intro v hv;rcases List.mem_cons.1 hv with rfl|hv
   ·intro e;cases e
   ·exact (h3 v hv).1
  have hm:(QK tm xs).map (A8 σ) = .int k a::r:=by
   rw[e,List.map_cons];congr 1;conv=>rhs;rw[<-List.map_id r]
   exact List.map_congr_left λ v hv=>(h3 v hv).2
  simp only[e8];rw[show xs.map st.ev = .int k a::r from (evL hr hx).trans hm];simp only[h1,Option.map_some,HW]
 ·exact h.elim
theorem AfE (hr:RX σ tm M st) {k t:Nat} {K:Nat->List (List AV)->Prop} (h:fU M k t K) : ∃ z es,(st.own (σ k t).1).c9 (σ k t).2=some ⟨z,es⟩/\K z es:=by
 unfold fU at h;split at h
 ·rename_i s c hm
  split at h
  ·split at h
   ·exact ⟨_,_,hr.sat.c9 _ _ _ (EI hm),h⟩
   ·exact h.elim
  ·rename_i i
   split at h
   ·rename_i rows
    obtain ⟨z,es,g,h⟩:=h;exact ⟨z,es,hr.sat.c9 k (i+1) (.rw z es) (by simp [c5,hm,g]),h⟩
   ·exact h.elim
 ·exact h.elim
theorem Aga {own l6:AH} {s t i j:Nat} {vs:List AV} (h:own.ij s t i j vs=some l6):own.put s (l6 s)=l6:=by
 unfold AH.ij at h;cases hg:own.get s t with
 | none=>simp [hg]at h
 | some b =>
  simp only[hg]at h;cases he:b.es[i]? with
  | none=>simp [he]at h
  | some cs =>
   simp only[he]at h;split at h
   ·obtain rfl:=Option.some.inj h
    rw[AH.j5]
   ·cases h
theorem yT {s n:Nat} {x v:AP} (hr:RX σ tm M st) (h:XE L tm M c4 K (.kj s n x v)):BU L tm c4 K (.kj s n x v) st:=by
 simp only[XE]at h;split at h
 ·rename_i key i j e1
  split at h
  ·rename_i s' c hm
   cases hb:Nat.beq s' s<;>simp only[hb,cond_true,cond_false]at h;obtain rfl:=BJ.1 hb;have bq:=hr.sat.site _ _ _ hm;obtain ⟨E,σ',v',M',h1,h2,h3,h4⟩:=jC (c4:=c4) (L:=L) hr (show XE L tm M c4 K (.st n x v) from h);have z0:=hr.ev e1 (by intro e;cases e);rw[EA,bq]at z0;have key : ∀ vs,cellsOf (st.ev v)=some vs->vs.length=n -> ∃ o',st.own.ij s' (σ key 0).2 i j vs=some o'/\E = .al (.g8 []) o':=λ vs br hn=>by
    have:=h1 0
    simp only[e8,z0,br]at this;rw[if_pos hn,Option.map_eq_some_iff]at this;obtain ⟨o',a1,a2⟩:=this;exact ⟨o',a1,a2.symm⟩
   cases br:cellsOf (st.ev v) with
   | none=>have:=h1 0;simp [e8,z0,br]at this
   | some vs =>
    by_cases hn:vs.length=n
    ·obtain ⟨o',a1,rfl⟩:=key vs br hn
     refine ⟨.n9 s' (o' s'),σ',v',M',λ C => ?_,h2,h3,?_⟩
     ·simp only[e8,z0,br]
      rw[if_pos ⟨trivial,hn⟩,a1];rfl
     ·have e2:(CG.res st.own (.n9 s' (o' s'))).2=o':=Aga a1
      rw[e2];exact h4
    ·have:=h1 0
     simp only[e8,z0,br]at this;rw[if_neg hn]at this;cases this
  ·exact h.elim
 ·exact h.elim
theorem yJ {ne:Bool} {x:AP} (hr:RX σ tm M st) (h:XE L tm M c4 K (.nr ne x)):BU L tm c4 K (.nr ne x) st:=by
 simp only[XE]at h;split at h
 ·rename_i e1
  rw[QL]at h;exact BU.val hr _ (λ C=>by simp only[e8,hr.ev e1 (by intro e;cases e),FS,HG]) h
 ·rename_i b e1
  rw[QL]at h;exact BU.val hr _ (λ C=>by simp only[e8,hr.ev e1 (by intro e;cases e),AfF,HG]) h
 ·rename_i q es e1
  obtain ⟨h0,h⟩:=h;rw[QL]at h;cases es with
  | nil=>exact absurd rfl h0
  | cons e es=>exact BU.val hr _ (λ C=>by simp only[e8,hr.ev e1 (by intro e;cases e),H9,HG]) h
 ·rename_i s t z o n e1
  obtain ⟨h0,h⟩:=h;rw[QL]at h;cases n with
  | zero=>exact absurd h0 (by omega)
  | succ n=>exact BU.val hr _ (λ C=>by simp only[e8,hr.ev e1 (by intro e;cases e),DE,HG]) h
 ·exact h.elim
theorem yR {tb:List Nat} {x:AP} (hr:RX σ tm M st) (h:XE L tm M c4 K (.de tb x)):BU L tm c4 K (.de tb x) st:=by
 simp only[XE]at h;split at h
 ·rename_i k n e1
  obtain ⟨h0,v,h1,h2⟩:=h;exact BU.val hr _ (λ C=>by simp only[e8,hr.ev e1 (by intro e;cases e),HW,h1];rw[if_pos h0]) h2
 ·exact h.elim
theorem Sn {v:AV} {K:AV->Prop} (h:fF v K):v ≠ .any/\G0 (A8 σ v)=some (A6 σ v)/\K v:=by
 cases v<;>first|exact (h:False).elim|exact ⟨(by intro e;cases e),rfl,h⟩
theorem rF (hr:RX σ tm M st) : ∀ {l:List AP} {K:List AV->Prop},eG tm l K -> ∃ cs,l.mapM (λ x=>G0 (st.ev x))=some (cs.map (A6 σ))/\K cs
 | [],K,h=>⟨[],rfl,h⟩
 | x::r,K,h=>by
  obtain ⟨h0,hc,h⟩:=Sn (σ:=σ) (show fF (ex tm x) λ v=>eG tm r λ cs=>K (v::cs) from h);obtain ⟨cs,h1,h2⟩:=rF hr h;refine ⟨ex tm x::cs,?_,h2⟩;rw[List.mapM_cons,h1,hr.ev rfl h0,hc];rfl
theorem yN {p:Bool} {f:Nat} {xs:List AP} (hr:RX σ tm M st) (h:XE L tm M c4 K (.ki p f xs)):BU L tm c4 K (.ki p f xs) st:=by
 simp only[XE]at h;obtain ⟨cs,h1,h2⟩:=rF hr h;exact BU.val hr _ (λ C=>by simp only[e8,h1,Option.map_some,Y3,List.isEmpty_map];rfl) h2
theorem Re (hr:RX σ tm M st) {v:AV} {K:List (List AV)->Prop} (h:XT M v K):v ≠ .any /\ ∃ es,EH st.own (A8 σ v)=some es/\K es:=by
 cases v with
 | sl q es=>exact ⟨(by intro e;cases e),_,rfl,h⟩
 | nil=>exact ⟨(by intro e;cases e),_,rfl,h⟩
 | x9 v =>
  cases v with
  | bool b=>exact ⟨(by intro e;cases e),_,rfl,h⟩
  | _=>exact (h:False).elim
 | row key t z off len =>
  simp only[XT]at h;obtain ⟨z',es,g,h⟩:=AfE hr h;cases hz:Nat.beq z z'<;>simp only[hz,cond_true,cond_false]at h;obtain rfl:=BJ.1 hz;refine ⟨(by intro e;cases e),_,?_,h.2⟩;simp only[DE,EH,AH.get,g];rw[if_pos ⟨h.1,trivial⟩]
 | _=>exact (h:False).elim
theorem eH (hr:RX σ tm M st) {o:Option AP} {K:Option Int->Prop} (h:YJ tm o K):(o=none/\K none) \/ ∃ x k n,o=some x/\st.ev x = .int k n/\K (some n):=by
 unfold YJ at h;split at h
 ·exact Or.inl ⟨rfl,h⟩
 ·split at h
  ·rename_i e
   exact Or.inr ⟨_,_,_,rfl,hr.ev e (by intro e;cases e),h⟩
  ·exact h.elim
theorem yS {z:Nat} {x:AP} {lo hi:Option AP} (hr:RX σ tm M st) (h:XE L tm M c4 K (.bz z x lo hi)):BU L tm c4 K (.bz z x lo hi) st:=by
 simp only[XE]at h;have go : ∀ (a b:Option Int),(match ex tm x with
   | .sl l es=>BR z es a b λ es=>K (.sl l es) M
   | .row key t z' off len=>bif Nat.beq z' z then BI a b len λ a h=>K (.row key t z (off+a) (h-a)) M else False
   | .nil=>(match a,b with
    | none,none=>K .nil M
    | some a,none=>AM (a=0) (K .nil M)
    | none,some h=>AM (h=0) (K .nil M)
    | some a,some h=>AM (a=0/\h=0) (K .nil M))
   | _=>False)->(lo=none/\a=none \/ ∃ y k n,lo=some y/\st.ev y = .int k n/\a=some n)->(hi=none/\b=none \/ ∃ y k n,hi=some y/\st.ev y = .int k n/\b=some n)->BU L tm c4 K (.bz z x lo hi) st:=by
  intro a b h ha hb;split at h
  ·rename_i q es e
   obtain ⟨g1,a',h',g2,g3,g4,h⟩:=h;refine BU.val hr _ (λ C => ?_) h;rcases ha with ⟨rfl,rfl⟩|⟨y,k,n,rfl,e1,rfl⟩<;>rcases hb with ⟨rfl,rfl⟩|⟨y',k',n',rfl,e2,rfl⟩<;>try simp only at g2 g3<;>simp only[e8,hr.ev e (by intro e;cases e),H9, *]<;>simp_all
  ·rename_i key t z' off len e
   cases hz:Nat.beq z' z<;>simp only[hz,cond_true,cond_false]at h;obtain rfl:=BJ.1 hz;obtain ⟨a',h',g2,g3,g4,h⟩:=h;refine BU.val hr _ (λ C => ?_) h;rcases ha with ⟨rfl,rfl⟩|⟨y,k,n,rfl,e1,rfl⟩<;>rcases hb with ⟨rfl,rfl⟩|⟨y',k',n',rfl,e2,rfl⟩<;>try simp only at g2 g3<;>simp only[e8,hr.ev e (by intro e;cases e),DE, *]<;>simp_all
  ·rename_i e
   rcases ha with ⟨rfl,rfl⟩|⟨y,k,n,rfl,e1,rfl⟩<;>rcases hb with ⟨rfl,rfl⟩|⟨y',k',n',rfl,e2,rfl⟩<;>simp only at h
   ·exact BU.val hr .nil (λ C=>by simp only[e8,hr.ev e (by intro e;cases e),FS]) h
   ·exact BU.val hr .nil (λ C=>by simp only[e8,hr.ev e (by intro e;cases e),FS,e2,h.1,if_true]) h.2
   ·exact BU.val hr .nil (λ C=>by simp only[e8,hr.ev e (by intro e;cases e),FS,e1,h.1,if_true]) h.2
   ·exact BU.val hr .nil (λ C=>by simp only[e8,hr.ev e (by intro e;cases e),FS,e1,e2,h.1.1,h.1.2,if_true]) h.2
  ·exact h.elim
 rcases eH hr h with ⟨h1,h⟩|⟨y,k,n,h1,h2,h⟩
 ·rcases eH hr h with ⟨g1,h⟩|⟨y,k,n,g1,g2,h⟩
  ·exact go _ _ h (Or.inl ⟨h1,rfl⟩) (Or.inl ⟨g1,rfl⟩)
  ·exact go _ _ h (Or.inl ⟨h1,rfl⟩) (Or.inr ⟨_,_,_,g1,g2,rfl⟩)
 ·rcases eH hr h with ⟨g1,h⟩|⟨y',k',n',g1,g2,h⟩
  ·exact go _ _ h (Or.inr ⟨_,_,_,h1,h2,rfl⟩) (Or.inl ⟨g1,rfl⟩)
  ·exact go _ _ h (Or.inr ⟨_,_,_,h1,h2,rfl⟩) (Or.inr ⟨_,_,_,g1,g2,rfl⟩)
theorem YW {s key:Nat} : ∀ {M:Mem},G1 s M=false->G1 s (n7 key M)=false
 | [],_=>rfl
 | (i,s0,c0)::r,h=>by
  simp only[G1]at h;cases q0:Nat.beq s i<;>simp only[q0,cond_true,cond_false]at h
  ·cases q1:HF s c0<;>simp only[q1,cond_true,cond_false]at h
   ·simp only[n7]
    cases Nat.beq key i
    ·simp only[cond_false,G1,q0,q1,YW h]
    ·simp only[cond_true,YW h]
   ·cases h
  ·cases h
theorem xW {s z bytes:Nat} {x y:AP} (hr:RX σ tm M st) (h:XT M (ex tm y) λ ys=>match ex tm x with
   | .row key 0 z' off len=>bif Nat.beq off 0 then bif Nat.beq z' z then (match c7 M key with
    | some (s',.rw di es)=>bif Nat.beq di z then fM (n7 key M) λ M'=>(A9 es len ys z bytes λ es' n=>GH s tm M λ k=>K (.row k 0 z 0 n) ((k,s',.rw z es')::M')) else False
    | _=>False) else False else False
   | .row key (i+1) z' off len=>bif Nat.beq off 0 then bif Nat.beq z' z then (match c7 M key with
    | some (sk,.mx rows)=>fM (n7 key M) λ M'=>BQ rows i λ di es=>bif Nat.beq di z then (A9 es len ys z bytes λ es' n => ∀ s' v,GH s tm M λ k=>K (.row k 0 z 0 n) ((k,s',.rw z es')::(key,sk,.hx i v (rows.set i none))::M')) else False
    | _=>False) else False else False
   | .nil=>bif E4 s then BS ys z bytes λ es n=>GH s tm M λ k=>K (.row k 0 z 0 n) ((k,s,.rw z es)::M) else False
   | _=>False):BU L tm c4 K (.app s z bytes x y) st:=by
 obtain ⟨h0,ys,hy,h⟩:=Re hr h;have Ex:EH st.own (st.ev y)=some ys:=by rw[hr.ev rfl h0];exact hy
 split at h
 ·rename_i key z' off len e
  cases ho:Nat.beq off 0<;>simp only[ho,cond_true,cond_false]at h;cases hz:Nat.beq z' z<;>simp only[hz,cond_true,cond_false]at h;obtain rfl:=BJ.1 ho;obtain rfl:=BJ.1 hz;split at h
  ·rename_i s' di es hm
   cases vj:Nat.beq di z'<;>simp only[vj,cond_true,cond_false]at h;obtain rfl:=BJ.1 vj;rw[OW]at h;obtain ⟨g1,g2,g3,g4,h⟩:=h;obtain ⟨k,h1,h2,h3⟩:=HZ h;have hs:=hr.sat.site _ _ _ hm;have w3:=hr.sat.c9 _ _ _ (EI hm);have hn:=(hr.kill hm).dc (s:=k) (q:=s') (YW h1) h2 (.rw di (es.take len++ys)) trivial rfl (λ_=>by have:=hr.sat.low _ _ _ (EI hm) rfl;rwa [hs]at this);have vu:(st.own.put s' ((st.own s').n9 (σ key 0).2 none)).g7 s'=st.own.g7 s':=by simp [AH.g7,AH.j5,CD.n9]
   simp only[AH.j5,AH.ig,vu]at hn;refine ⟨.al (.row s' (st.own.g7 s') di 0 (len+ys.length)) (st.own.put s' (((st.own s').n9 (σ key 0).2 none).new ⟨di,es.take len++ys⟩)),_,_,_,λ C => ?_,h3,?_,hn⟩
   ·rw[hs]at w3
    simp only[e8,Ex,hr.ev e (by intro e;cases e),DE,AH.get,hs,w3,A7.c9];rw[if_pos g2,if_pos ⟨trivial,trivial,g1,g3,g4⟩]
   ·simp only[CG.res,DE,BZ]
  ·exact h.elim
 ·rename_i key i z' off len e
  cases ho:Nat.beq off 0<;>simp only[ho,cond_true,cond_false]at h;cases hz:Nat.beq z' z<;>simp only[hz,cond_true,cond_false]at h;obtain rfl:=BJ.1 ho;obtain rfl:=BJ.1 hz;split at h
  ·rename_i sk rows hm
   rw[OW]at h;obtain ⟨di,es,g0,h⟩:=h;cases vj:Nat.beq di z'<;>simp only[vj,cond_true,cond_false]at h;obtain rfl:=BJ.1 vj;obtain ⟨g1,g2,g3,g4,h⟩:=h;have h:=h (σ key (i+1)).1 (.row (σ key (i+1)).1 (σ key (i+1)).2 di 0 es.length);obtain ⟨k,h1,h2,h3⟩:=HZ h;have w3:=hr.sat.c9 key (i+1) (.rw di es) (by simp [c5,hm,g0]);have hn:=hr.Fg (s:=k) (es':=es.take len++ys) hm g0 h1 h2;refine ⟨.al (.row (σ key (i+1)).1 (st.own.g7 (σ key (i+1)).1) di 0 (len+ys.length)) (st.own.put (σ key (i+1)).1 (((st.own (σ key (i+1)).1).n9 (σ key (i+1)).2 none).new ⟨di,es.take len++ys⟩)),_,_,_,λ C => ?_,h3,?_,hn⟩
   ·simp only[e8,Ex,hr.ev e (by intro e;cases e),DE,AH.get,w3,A7.c9]
    rw[if_pos g2,if_pos ⟨trivial,trivial,g1,g3,g4⟩]
   ·simp only[CG.res,DE,BZ]
  ·exact h.elim
 ·rename_i e
  cases dj:E4 s<;>simp only[dj,cond_true,cond_false]at h;obtain ⟨g2,g3,g4,h⟩:=h;obtain ⟨k,h1,h2,h3⟩:=HZ h;refine ⟨.al (.row s (st.own.g7 s) z 0 ys.length) (st.own.put s ((st.own s).new ⟨z,ys⟩)),_,_,_,λ C => ?_,h3,?_,hr.dc h1 h2 (.rw z ys) trivial rfl (λ_=>dj)⟩
  ·simp only[e8,Ex,hr.ev e (by intro e;cases e),FS]
   rw[if_pos g2,if_pos ⟨g3,g4⟩]
  ·simp only[CG.res,DE,BZ]
 ·exact h.elim
theorem zA {v:AV} {ky k2 z n:Nat} (h:RC M v=some (ky,some (k2,z,n))):v = .row ky 0 1 0 1 /\ ∃ sy,c7 M ky=some (sy,.bs 1 [[.row k2 0 z 0 n]]):=by
 unfold RC at h;split at h
 ·split at h
  ·rename_i hm
   simp only[Option.some.injEq,Prod.mk.injEq]at h;obtain ⟨rfl,rfl,rfl,rfl⟩:=h;exact ⟨rfl,_,hm⟩
  ·simp at h
  ·cases h
 ·cases h
theorem yZ {v:AV} {ky:Nat} (h:RC M v=some (ky,none)):v = .row ky 0 1 0 1 /\ ∃ sy,c7 M ky=some (sy,.rw 1 [[.nil]]):=by
 unfold RC at h;split at h
 ·split at h
  ·simp at h
  ·rename_i hm
   simp only[Option.some.injEq,Prod.mk.injEq,and_true]at h;subst h;exact ⟨rfl,_,hm⟩
  ·cases h
 ·cases h
theorem pS {z:Nat} : ∀ {es:List (List AV)},VO z es=true -> ∀ e∈es,e.length=z
 | [],_,e,he=>by cases he
 | a::r,h,e,he=>by
  simp only[VO]at h;cases h1:Nat.beq a.length z<;>simp only[h1,cond_true,cond_false]at h
  ·cases h
  ·rcases List.mem_cons.1 he with rfl|he
   ·exact BJ.1 h1
   ·exact pS h e he
theorem sE {k:Nat} {b:List (List AV)} (r2:JK k b=false) : ∀ {a:List (List AV)},JK k a=false->JK k (a++b)=false
 | [],_=>r2
 | c::a,h=>by
  simp only[JK,List.cons_append]at h ⊢;cases hq:H6 k c<;>simp only[hq,cond_true,cond_false]at h ⊢
  ·exact sE r2 h
  ·cases h
theorem xX {s z bytes:Nat} {x y:AP} (hr:RX σ tm M st) (h:aF tm M s z bytes x y K):BU L tm c4 K (.app s z bytes x y) st:=by
 unfold aF at h;split at h
 ·rename_i ky zy ny ey
  split at h
  ·rename_i sy z2 fy mu
   cases a1:Nat.beq zy z<;>simp only[a1,cond_true,cond_false]at h;cases a2:Nat.beq z2 z<;>simp only[a2,cond_true,cond_false]at h;cases a3:Nat.beq ny fy.length<;>simp only[a3,cond_true,cond_false]at h;cases a4:VO z fy<;>simp only[a4,cond_true,cond_false]at h;have b1:=BJ.1 a1;have b2:=BJ.1 a2;have b3:=BJ.1 a3;subst b1 b2 b3;have fq:=hr.sat.site _ _ _ mu;have ml:=hr.sat.c9 _ _ _ (EI mu);rw[fq]at ml
   have vi:EH st.own (st.ev y)=some (fy.map λ cs=>cs.map (A6 σ)):=by
    rw[hr.ev ey (by intro e;cases e)];simp only[DE,EH,AH.get,fq,ml,A7.c9];rw[if_pos (by simp),List.drop_zero,List.take_of_length_le (by simp)]
   have df : ∀ e∈fy.map (λ cs=>cs.map (A6 σ)),e.length=z2:=λ e he=>by
    obtain ⟨c,hc,rfl⟩:=List.mem_map.1 he;rw[List.length_map];exact pS a4 c hc
   split at h
   ·rename_i e
    cases dj:E4 s<;>simp only[dj,cond_true,cond_false]at h;obtain ⟨⟨g3,g4⟩,h⟩:=dR h;obtain ⟨k,h1,h2,h3⟩:=HZ h;have zt:HF k (.bs z2 fy)=false:=(O1 h1 _ _ _ mu).2;refine ⟨.al (.row s (st.own.g7 s) z2 0 fy.length) (st.own.put s ((st.own s).new ⟨z2,fy.map λ cs=>cs.map (A6 σ)⟩)),_,_,_,λ C => ?_,h3,?_,hr.dc h1 h2 (.bs z2 fy) trivial zt (λ_=>dj)⟩
    ·simp only[e8,vi,hr.ev e (by intro e;cases e),FS]
     rw[if_pos df,if_pos ⟨by simpa [EZ] using g3,by simpa using g4⟩,List.length_map]
    ·simp only[CG.res,DE,BZ]
   ·rename_i kx zx len e
    cases c1:Nat.beq zx z2<;>simp only[c1,cond_true,cond_false]at h;split at h
    ·rename_i s' z1 qy hm
     cases c2:Nat.beq z1 z2<;>simp only[c2,cond_true,cond_false]at h;cases c3:Nat.beq len qy.length<;>simp only[c3,cond_true,cond_false]at h;have d1:=BJ.1 c1;have d2:=BJ.1 c2;have d3:=BJ.1 c3;subst d1 d3;rw[OW]at h;obtain ⟨⟨g3,g4⟩,h⟩:=dR h;obtain ⟨k,h1,h2,h3⟩:=HZ h;have hs:=hr.sat.site _ _ _ hm;have w3:=hr.sat.c9 _ _ _ (EI hm);have r1:JK k qy=false:=(O1 h1 _ _ _ hm).2;have r2:JK k fy=false:=(O1 h1 _ _ _ mu).2;have zt:HF k (.bs zx (qy++fy))=false:=by
      exact sE r2 r1
     have hn:=(hr.kill hm).dc (s:=k) (q:=s') (YW h1) h2 (.bs zx (qy++fy)) trivial zt (λ_=>by have:=hr.sat.low _ _ _ (EI hm) rfl;rwa [hs]at this);have vu:(st.own.put s' ((st.own s').n9 (σ kx 0).2 none)).g7 s'=st.own.g7 s':=by simp [AH.g7,AH.j5,CD.n9]
     simp only[AH.j5,AH.ig,vu,A7.c9,List.map_append]at hn;rw[hs]at w3;refine ⟨.al (.row s' (st.own.g7 s') zx 0 (qy.length+fy.length)) (st.own.put s' (((st.own s').n9 (σ kx 0).2 none).new ⟨zx,qy.map (λ cs=>cs.map (A6 σ))++fy.map λ cs=>cs.map (A6 σ)⟩)),_,_,_,λ C => ?_,h3,?_,hn⟩
     ·simp only[e8,vi,hr.ev e (by intro e;cases e),DE,AH.get,hs,w3,A7.c9]
      rw[if_pos df,if_pos ⟨d2,trivial,by simp,by simpa [EZ] using g3,by simpa using g4⟩,List.take_of_length_le (by simp),List.length_map]
     ·simp only[CG.res,DE,BZ,List.length_append]
    ·exact h.elim
   ·exact h.elim
  ·exact h.elim
 ·exact h.elim
theorem xV {s z bytes:Nat} {x y:AP} (hr:RX σ tm M st) (h:XE L tm M c4 K (.app s z bytes x y)):BU L tm c4 K (.app s z bytes x y) st:=by
 simp only[XE]at h;cases hV:Nat.ble 800000 s<;>simp only[hV,cond_true,cond_false]at h;rotate_left
 ·exact xX hr h
 split at h
 ·rename_i ky k2 z2 n2 Gn
  obtain ⟨lz,sy,mu⟩:=zA Gn;have fq:=hr.sat.site _ _ _ mu;have ml:=hr.sat.c9 _ _ _ (EI mu);rw[fq]at ml
  have vi:EH st.own (st.ev y)=some [[.row (σ k2 0).1 (σ k2 0).2 z2 0 n2]]:=by
   rw[hr.ev lz (by intro e;cases e)];simp only[DE,EH,AH.get,fq,ml,A7.c9,A6,List.map_cons,List.map_nil,List.length_cons,List.length_nil];simp
  split at h
  ·rename_i key z' off len e
   cases ho:Nat.beq off 0<;>simp only[ho,cond_true,cond_false]at h;cases hz:Nat.beq z' 1<;>simp only[hz,cond_true,cond_false]at h;cases fw:Nat.beq z 1<;>simp only[fw,cond_true,cond_false]at h;cases ka:Nat.beq key k2<;>simp only[ka,cond_true,cond_false]at h;cases Hn:Nat.beq key ky<;>simp only[Hn,cond_true,cond_false]at h;cases hk3:Nat.beq k2 ky<;>simp only[hk3,cond_true,cond_false]at h;obtain rfl:=BJ.1 ho;obtain rfl:=BJ.1 hz;obtain rfl:=BJ.1 fw;split at h
   ·rename_i s2 z3 es fh
    cases Da:Nat.beq z2 z3<;>simp only[Da,cond_true,cond_false]at h;obtain rfl:=BJ.1 Da;split at h
    ·rename_i s' rows hm
     rw[OW]at h;obtain ⟨rfl,rfl,g3,g4,h⟩:=h;obtain ⟨k,h1,h2,h3⟩:=HZ h;have hs:=hr.sat.site _ _ _ hm;have w3:=hr.sat.c9 _ _ _ (EI hm);rw[hs]at w3;refine ⟨.al (.row s' (st.own.g7 s') 1 0 (rows.length+1)) (st.own.put s' (((st.own s').n9 (σ key 0).2 none).new ⟨1,B4 σ key 0 rows++[[.row (σ k2 0).1 (σ k2 0).2 z2 0 es.length]]⟩)),_,_,_,λ C => ?_,h3,?_,hr.Fh (ky:=ky) hm fh (FH.1 ka) h1 h2⟩
     ·simp only[e8,vi,hr.ev e (by intro e;cases e),DE,AH.get,hs,w3,A7.c9]
      rw[if_pos (by simp),if_pos ⟨trivial,trivial,by rw[E5];exact Nat.le_refl _,by simpa using g3,by simpa using g4⟩];rw[List.take_of_length_le (by rw[E5];exact Nat.le_refl _)];rfl
     ·simp only[CG.res,DE,BZ]
    ·exact h.elim
   ·exact h.elim
  ·rename_i e
   cases dj:E4 s<;>simp only[dj,cond_true,cond_false]at h;cases fw:Nat.beq z 1<;>simp only[fw,cond_true,cond_false]at h;obtain rfl:=BJ.1 fw;split at h
   ·rename_i s2 z3 es fh
    cases Da:Nat.beq z2 z3<;>simp only[Da,cond_true,cond_false]at h;obtain rfl:=BJ.1 Da;rw[OW]at h;obtain ⟨⟨rfl,g3⟩,h⟩:=h;obtain ⟨k,h1,h2,h3⟩:=HZ h;obtain ⟨σ',q1,q2⟩:=hr.Ji (q:=s) fh (λ e=>(O1 h1 _ _ _ fh).1 e.symm) h1 h2 dj;refine ⟨.al (.row s (st.own.g7 s) 1 0 1) (st.own.put s ((st.own s).new ⟨1,[[.row (σ k2 0).1 (σ k2 0).2 z2 0 es.length]]⟩)),σ',_,_,λ C => ?_,h3,?_,q2⟩
    ·simp only[e8,vi,hr.ev e (by intro e;cases e),FS]
     rw[if_pos (by simp),if_pos ⟨by simpa [EZ] using g3,by simp⟩];rfl
    ·simp only[CG.res,DE,q1]
   ·exact h.elim
  ·exact h.elim
 ·rename_i ky Gn
  obtain ⟨lz,sy,mu⟩:=yZ Gn;have fq:=hr.sat.site _ _ _ mu;have ml:=hr.sat.c9 _ _ _ (EI mu);rw[fq]at ml
  have vi:EH st.own (st.ev y)=some [[.nil]]:=by
   rw[hr.ev lz (by intro e;cases e)];simp only[DE,EH,AH.get,fq,ml,A7.c9,List.length_cons,List.length_nil];simp
  split at h
  ·rename_i key z' off len e
   cases ho:Nat.beq off 0<;>simp only[ho,cond_true,cond_false]at h;cases hz:Nat.beq z' 1<;>simp only[hz,cond_true,cond_false]at h;cases fw:Nat.beq z 1<;>simp only[fw,cond_true,cond_false]at h;cases Hn:Nat.beq key ky<;>simp only[Hn,cond_true,cond_false]at h;obtain rfl:=BJ.1 ho;obtain rfl:=BJ.1 hz;obtain rfl:=BJ.1 fw;split at h
   ·rename_i s' rows hm
    rw[OW]at h;obtain ⟨rfl,g3,g4,h⟩:=h;obtain ⟨k,h1,h2,h3⟩:=HZ h;have hs:=hr.sat.site _ _ _ hm;have w3:=hr.sat.c9 _ _ _ (EI hm);rw[hs]at w3;refine ⟨.al (.row s' (st.own.g7 s') 1 0 (rows.length+1)) (st.own.put s' (((st.own s').n9 (σ key 0).2 none).new ⟨1,B4 σ key 0 rows++[[.nil]]⟩)),_,_,_,λ C => ?_,h3,?_,hr.Fi hm h1 h2⟩
    ·simp only[e8,vi,hr.ev e (by intro e;cases e),DE,AH.get,hs,w3,A7.c9]
     rw[if_pos (by simp),if_pos ⟨trivial,trivial,by rw[E5];exact Nat.le_refl _,by simpa using g3,by simpa using g4⟩];rw[List.take_of_length_le (by rw[E5];exact Nat.le_refl _)];rfl
    ·simp only[CG.res,DE,BZ]
   ·exact h.elim
  ·rename_i e
   cases dj:E4 s<;>simp only[dj,cond_true,cond_false]at h;cases fw:Nat.beq z 1<;>simp only[fw,cond_true,cond_false]at h;obtain rfl:=BJ.1 fw;obtain ⟨g3,h⟩:=h;obtain ⟨k,h1,h2,h3⟩:=HZ h;have du:A7.flat (.mx [none]):=by
    intro i x hx;cases i with
    | zero=>simp at hx
    | succ i=>simp at hx
   refine ⟨.al (.row s (st.own.g7 s) 1 0 1) (st.own.put s ((st.own s).new ⟨1,[[.nil]]⟩)),_,_,_,λ C => ?_,h3,?_,hr.dc h1 h2 (.mx [none]) du rfl (λ_=>dj)⟩
   ·simp only[e8,vi,hr.ev e (by intro e;cases e),FS]
    rw[if_pos (by simp),if_pos ⟨by simpa [EZ] using g3,by simp⟩];rfl
   ·simp only[CG.res,DE,BZ]
  ·exact h.elim
 ·exact xW hr h
end
end Go.b7
