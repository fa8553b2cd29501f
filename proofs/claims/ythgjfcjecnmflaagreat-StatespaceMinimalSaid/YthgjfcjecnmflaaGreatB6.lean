/-
  The walk by computation is sound.
-/
import Derived.Test.YthgjfcjecnmflaaGreatB5
set_option linter.unusedSimpArgs false
set_option linter.unusedVariables false
set_option linter.unnecessarySimpa false
namespace Go.e8
theorem BI {a b:Nat}:Nat.beq a b=true↔a=b:=⟨Nat.eq_of_beq_eq_true,λ h=>by subst h;simp⟩
theorem E5 {a b:Nat}:Nat.beq a b=false↔a≠b:=by
 constructor
 ·exact Nat.ne_of_beq_eq_false
 ·intro h
  cases e:Nat.beq a b
  ·rfl
  ·exact absurd (Nat.eq_of_beq_eq_true e) h
theorem JF (j:Nat) : ∀ tm:Tm,tg tm j=g7 tm j
 | []=>rfl
 | (i,v)::r=>by
  simp only[tg,ZR,JF j r];cases e:Nat.beq j i
  ·rw[if_neg (E5.1 e)];rfl
  ·rw[if_pos (BI.1 e)];rfl
theorem GT : ∀ (l:List AV) (K:List AV->Prop),fL l K=K l
 | [],_=>rfl
 | v::r,K=>by rw[fL,GT r]
theorem WO : ∀ (l:Tm) (K:Tm->Prop),fT l K=K l
 | [],_=>rfl
 | (i,v)::r,K=>by rw[fT,WO r]
theorem OQ : ∀ (l:Mem) (K:Mem->Prop),fM l K=K l
 | [],_=>rfl
 | (k,s,c)::r,K=>by rw[fM,OQ r]
theorem AeQ (n:Nat) (K:Nat->Prop):fN n K=K n:=by cases n<;>rfl
theorem eV (m i:Nat):bit m i=m.testBit i:=by
 have h:Nat.land (Nat.shiftRight m i) 1=(m >>> i)%2:=Nat.and_one_is_mod (m >>> i);have ht:m.testBit i=decide ((m >>> i)%2=1):=by
  rw[Nat.testBit,Nat.and_comm,Nat.and_one_is_mod];rcases Nat.mod_two_eq_zero_or_one (m >>> i) with e|e<;>simp [e]
 unfold bit;rw[h,ht];rcases Nat.mod_two_eq_zero_or_one (m >>> i) with e|e<;>rw[e]<;>rfl
theorem nZ (m i j:Nat):bit (Nat.lor m (Nat.shiftLeft 1 i)) j=(bit m j||decide (j=i)):=by
 rw[eV,eV];show (m ||| (1 <<< i)).testBit j=_;rw[Nat.testBit_or,Nat.testBit_shiftLeft];congr 1;by_cases h:j=i
 ·subst h;simp
 ·by_cases h2:j≥i
  ·obtain ⟨d,rfl⟩ : ∃ d,j=i+d+1:=⟨j-i-1,by omega⟩
   rw[show i+d+1-i=d+1 by omega,Nat.testBit_succ];simp [h]
  ·simp [h2,h]
theorem nY : ∀ (ts:List Nat) (m j:Nat),bit (mask m ts) j=(bit m j||ts.contains j)
 | [],m,j=>by simp [mask]
 | t::ts,m,j=>by
  rw[mask,nY ts,nZ,List.contains_cons,Bool.or_assoc];congr 2
theorem fA (j:Nat):bit 0 j=false:=by rw[eV];simp
theorem ZP (j:Nat) : ∀ (tm:Tm) (m:Nat),tg (vn m tm) j=bif bit m j then .any else tg tm j
 | [],m=>by cases bit m j<;>rfl
 | (i,v)::r,m=>by
  simp only[vn];cases hb:bit m i
  ·simp only[cond_false,tg,ZP j r,nZ]
   cases hj:Nat.beq j i
   ·have:decide (j=i)=false:=by simpa using E5.1 hj
    simp only[cond_false,this,Bool.or_false]
   ·obtain rfl:=BI.1 hj
    simp only[cond_true,hb,cond_false]
  ·simp only[cond_true,tg,ZP j r]
   cases hj:Nat.beq j i
   ·rfl
   ·obtain rfl:=BI.1 hj
    simp only[hb,cond_true]
theorem bI {v:AV} {K:AV->Prop} (h:fV v K):v ≠ .any/\K v:=by
 cases v<;>simp only[fV,GT]at h<;>first|exact h.elim|exact ⟨(by intro e;cases e),h⟩
theorem bH {v:AV} {K:List AV->Prop} (h:fC v K):v ≠ .any /\ ∃ cs,cellsOf v=some cs/\K cs:=by
 cases v<;>simp only[fC,fV,GT]at h<;>first|exact h.elim|exact ⟨(by intro e;cases e),_,rfl,h⟩
theorem QN (b:Bool) (K:Bool->Prop):fB b K=K b:=by cases b<;>rfl
theorem zP {k:Nat} {tm:Tm} {M:Mem} (h:used k tm M=false):F9 k M=false/\HD k tm=false:=by
 unfold used at h;cases h1:F9 k M<;>simp only[h1,cond_true,cond_false]at h
 ·exact ⟨rfl,h⟩
 ·cases h
theorem wK {tm:Tm} {M:Mem} {K:Nat->Prop} : ∀ {l:List Nat},cQ tm M l K -> ∃ k,F9 k M=false/\HD k tm=false/\K k
 | [],h=>h.elim
 | k::r,h=>by
  simp only[cQ]at h;cases h0:used k tm M<;>simp only[h0,cond_true,cond_false]at h
  ·exact ⟨k,(zP h0).1,(zP h0).2,h⟩
  ·exact wK h
theorem G5 {s:Nat} {tm:Tm} {M:Mem} {K:Nat->Prop} (h:FP s tm M K) : ∃ k,F9 k M=false/\HD k tm=false/\K k:=wK h
section
variable {σ:FC}
def CJ (σ:FC) (k:Nat) (f:Nat->Nat × Nat):FC:=λ j t=>if j=k then f t else σ j t
theorem B8 {k j:Nat} (f:Nat->Nat × Nat) (h:j≠k):CJ σ k f j=σ j:=by funext t;simp [CJ,h]
theorem BK (k:Nat) (f:Nat->Nat × Nat):CJ σ k f k=f:=by funext t;simp [CJ]
theorem lQ {k:Nat} {p:Nat->Nat × Nat} {v:AV} (h:NE k v=false):A4 (CJ σ k p) v=A4 σ v:=by
 cases v with
 | row j t z o n=>simp only[NE]at h;simp only[A4,B8 p (E5.1 h)]
 | ptr j t a b=>simp only[NE]at h;simp only[A4,B8 p (E5.1 h)]
 | _=>rfl
theorem XG {k:Nat} {p:Nat->Nat × Nat} : ∀ {cs:List AV},HC k cs=false->cs.map (A4 (CJ σ k p))=cs.map (A4 σ)
 | [],_=>rfl
 | c::r,h=>by
  simp only[HC]at h;cases h1:NE k c<;>simp only[h1,cond_true,cond_false]at h
  ·rw[List.map_cons,List.map_cons,lQ h1,XG h]
  ·cases h
theorem lO {k:Nat} {p:Nat->Nat × Nat} : ∀ {es:List (List AV)},IJ k es=false->(es.map λ cs=>cs.map (A4 (CJ σ k p)))=es.map λ cs=>cs.map (A4 σ)
 | [],_=>rfl
 | c::r,h=>by
  simp only[IJ]at h;cases h1:HC k c<;>simp only[h1,cond_true,cond_false]at h
  ·rw[List.map_cons,List.map_cons,XG h1,lO h]
  ·cases h
theorem ZN {k:Nat} {p:Nat->Nat × Nat} {v:AV} (h:P4 k v=false):BJ (CJ σ k p) v=BJ σ v:=by
 cases v with
 | agg cs=>simp only[P4]at h;simp only[BJ,XG h]
 | fn p f g cs=>simp only[P4]at h;simp only[BJ,XG h]
 | row a b c d e=>exact lQ (v := .row a b c d e) h
 | ptr a b c d=>exact lQ (v := .ptr a b c d) h
 | _=>rfl
theorem yD {k:Nat} {p:Nat->Nat × Nat} : ∀ {cs:List AV},XB k cs=false->cs.map (BJ (CJ σ k p))=cs.map (BJ σ)
 | [],_=>rfl
 | c::r,h=>by
  simp only[XB]at h;cases h1:P4 k c<;>simp only[h1,cond_true,cond_false]at h
  ·rw[List.map_cons,List.map_cons,ZN h1,yD h]
  ·cases h
theorem dL {k:Nat} {p:Nat->Nat × Nat} {v:AV} (h:NF k v=false):BC (CJ σ k p) v=BC σ v:=by
 cases v with
 | l6 cs=>simp only[NF]at h;simp only[BC,yD h]
 | agg cs=>exact ZN (v := .agg cs) h
 | fn p f g cs=>exact ZN (v := .fn p f g cs) h
 | row a b c d e=>exact ZN (v := .row a b c d e) h
 | ptr a b c d=>exact ZN (v := .ptr a b c d) h
 | _=>rfl
theorem XC {k:Nat} : ∀ {tm:Tm},HD k tm=false -> ∀ j,NF k (tg tm j)=false
 | [],_,_=>rfl
 | (i,v)::r,h,j=>by
  simp only[HD]at h;cases h1:NF k v<;>simp only[h1,cond_true,cond_false]at h
  ·simp only[tg]
   cases Nat.beq j i
   ·exact XC h j
   ·exact h1
  ·cases h
theorem OW {k:Nat} : ∀ {M:Mem},F9 k M=false -> ∀ j s c,c8 M j=some (s,c)->j≠k/\GK k c=false
 | [],_,_,_,_,e=>by cases e
 | (i,s0,c0)::r,h,j,s,c,e=>by
  simp only[F9]at h;cases h0:Nat.beq k i<;>simp only[h0,cond_true,cond_false]at h
  ·cases h1:GK k c0<;>simp only[h1,cond_true,cond_false]at h
   ·simp only[c8]at e
    cases h2:Nat.beq j i<;>simp only[h2,cond_true,cond_false]at e
    ·exact OW h j s c e
    ·simp only[Option.some.injEq,Prod.mk.injEq]at e
     obtain ⟨_,rfl⟩:=e;exact ⟨λ e=>E5.1 h0 (e.symm.trans (BI.1 h2)),h1⟩
   ·cases h
  ·cases h
theorem QV {σ σ':FC} {k:Nat} : ∀ (rows:List (Option (Nat × List (List AV)))) (i:Nat),(∀ j,i<=j->σ k (j+1)=σ' k (j+1))->BU σ k i rows=BU σ' k i rows
 | [],i,h=>rfl
 | none::r,i,h=>by rw[BU,BU,QV r (i+1) λ j hj=>h j (by omega)]
 | some (z,es)::r,i,h=>by rw[BU,BU,QV r (i+1) λ j hj=>h j (by omega),h i (by omega)]
theorem ET {k:Nat} : ∀ (rows:List (Option (Nat × List (List AV)))) (i j:Nat),(BU σ k i rows)[j]? = (rows[j]?).map λ r=>match r with|none=>[.nil]|some (z,es)=>[.row (σ k (i+j+1)).1 (σ k (i+j+1)).2 z 0 es.length]
 | [],i,j=>by simp [BU]
 | none::r,i,0=>by simp [BU]
 | none::r,i,j+1=>by simp only[BU,List.getElem?_cons_succ,ET r (i+1) j];rw[show i+1+j=i+(j+1) by omega]
 | some (z,es)::r,i,0=>by simp [BU]
 | some (z,es)::r,i,j+1=>by simp only[BU,List.getElem?_cons_succ,ET r (i+1) j];rw[show i+1+j=i+(j+1) by omega]
theorem EU {k:Nat} : ∀ (rows:List (Option (Nat × List (List AV)))) (i:Nat),(BU σ k i rows).length=rows.length
 | [],i=>rfl
 | none::r,i=>by simp [BU,EU r]
 | some (z,es)::r,i=>by simp [BU,EU r]
theorem aG {k j:Nat} {f:Nat->Nat × Nat} {c:A3} (h:GK k c=false) (hj:j≠k):c.e7 (CJ σ k f) j=c.e7 σ j:=by
 cases c with
 | bx cs=>simp only[GK]at h;simp only[A3.e7,XG h]
 | rw z es=>rfl
 | bs z es=>simp only[GK]at h;simp only[A3.e7,lO h]
 | mx rows=>simp only[A3.e7];rw[QV rows 0 λ i _=>by rw[B8 f hj]]
 | hx a v rows=>simp only[A3.e7];rw[QV rows 0 λ i _=>by rw[B8 f hj]]
 | vw w rows=>simp only[A3.e7];rw[QV rows 0 λ i _=>by rw[B8 f hj]]
theorem Vr {v:AV} (h:tc v=true):A4 σ v=v:=by cases v<;>first|rfl|cases h
theorem IB : ∀ {cs:List AV},DR cs=true->cs.map (A4 σ)=cs
 | [],_=>rfl
 | c::r,h=>by
  simp only[DR]at h;cases h1:tc c<;>simp only[h1,cond_true,cond_false]at h
  ·cases h
  ·rw[List.map_cons,Vr h1,IB h]
theorem Vq {k:Nat} {v:AV} (h:tc v=true):NE k v=false:=by cases v<;>first|rfl|cases h
theorem gA {k:Nat} : ∀ {cs:List AV},DR cs=true->HC k cs=false
 | [],_=>rfl
 | c::r,h=>by
  simp only[DR]at h;cases h1:tc c<;>simp only[h1,cond_true,cond_false]at h
  ·cases h
  ·simp only[HC,Vq h1,gA h,cond_false]
theorem Xj (v:AV):cv v = .any\/(cv v=v/\BC σ v=v):=by
 cases v with
 | agg cs =>
  simp only[cv];cases h:DR cs
  ·exact Or.inl rfl
  ·exact Or.inr ⟨rfl,by simp only[BC,BJ,IB h]⟩
 | l6 vs=>cases vs with
  | nil=>exact Or.inr ⟨rfl,rfl⟩
  | cons=>exact Or.inl rfl
 | fn p f g cs=>cases cs with
  | nil=>exact Or.inr ⟨rfl,rfl⟩
  | cons=>exact Or.inl rfl
 | _=>first|exact Or.inl rfl|exact Or.inr ⟨rfl,rfl⟩
theorem Xg {k:Nat} (v:AV):NF k (cv v)=false:=by
 cases v with
 | agg cs =>
  simp only[cv];cases h:DR cs
  ·rfl
  ·exact gA h
 | l6 vs=>cases vs<;>rfl
 | fn p f g cs=>cases cs<;>rfl
 | _=>rfl
variable {tm:Tm} {M:Mem} {st:St}
theorem RX.ev (h:RX σ tm M st) {x:AR} {v:AV} (e:ex tm x=v) (hv:v ≠ .any):st.ev x=BC σ v:=by
 cases x with
 | t n =>
  simp only[ex]at e;rcases h.tm n with h|h
  ·exact absurd (e.symm.trans h) hv
  ·rw[e]at h;exact h
 | c u =>
  simp only[ex]at e;rcases Xj (σ:=σ) u with h|⟨h,h'⟩
  ·exact absurd (e.symm.trans h) hv
  ·rw[<-e,h,h'];rfl
theorem sO {k:Nat} (h:HD k tm=false) (x:AR):NF k (ex tm x)=false:=by
 cases x with
 | t n=>exact XC h n
 | c u=>exact Xg u
theorem xB {k:Nat} {v:AV} {cs:List AV} (h:NF k v=false) (e:cellsOf v=some cs):HC k cs=false:=by
 cases v<;>simp only[cellsOf,Option.some.injEq,reduceCtorEq]at e<;>subst e<;>first|exact h|rfl|(simp only[NF,P4]at h;simp only[HC,h,cond_false])
theorem OG {v:AV} {cs:List AV} (e:cellsOf v=some cs):cellsOf (BC σ v)=some (cs.map (A4 σ)):=by
 cases v<;>simp only[cellsOf,Option.some.injEq,reduceCtorEq]at e<;>subst e<;>rfl
def A3.flat:A3->Prop
 | .mx rows => ∀ (i:Nat) (x:Nat × List (List AV)),rows[i]? = some (some x)->False
 | .hx _ _ _=>False
 | .vw _ _=>False
 | _=>True
theorem DD {M:Mem} {k s:Nat} {c:A3} (h:c8 M k=some (s,c)):c4 M k 0=some c:=by simp [c4,h]
theorem GW {M:Mem} {k t:Nat} {c:A3} (h:c4 M k t=some c) : ∃ s c0,c8 M k=some (s,c0)/\(t=0->c=c0)/\(∀ i,t=i+1 -> ∃ rows z es,((c0 = .mx rows \/ ∃ a v,c0 = .hx a v rows) \/ ∃ w,c0 = .vw w rows)/\rows[i]? = some (some (z,es))/\c = .rw z es):=by
 unfold c4 at h;cases hm:c8 M k with
 | none=>simp [hm]at h
 | some x =>
  obtain ⟨s,c0⟩:=x;simp only[hm]at h;refine ⟨s,c0,rfl,?_,?_⟩
  ·rintro rfl;exact (Option.some.inj h).symm
  ·rintro i rfl
   cases c0 with
   | mx rows =>
    simp only at h;cases hr:rows[i]? with
    | none=>simp [hr]at h
    | some r =>
     cases r with
     | none=>simp [hr]at h
     | some ze=>obtain ⟨z,es⟩:=ze;simp only[hr,Option.some.injEq]at h;exact ⟨rows,z,es,Or.inl (Or.inl rfl),hr,h.symm⟩
   | hx a v rows =>
    simp only at h;cases hr:rows[i]? with
    | none=>simp [hr]at h
    | some r =>
     cases r with
     | none=>simp [hr]at h
     | some ze=>obtain ⟨z,es⟩:=ze;simp only[hr,Option.some.injEq]at h;exact ⟨rows,z,es,Or.inl (Or.inr ⟨a,v,rfl⟩),hr,h.symm⟩
   | vw w rows =>
    simp only at h;cases hr:rows[i]? with
    | none=>simp [hr]at h
    | some r =>
     cases r with
     | none=>simp [hr]at h
     | some ze=>obtain ⟨z,es⟩:=ze;simp only[hr,Option.some.injEq]at h;exact ⟨rows,z,es,Or.inr ⟨w,rfl⟩,hr,h.symm⟩
   | _=>simp at h
theorem JZ {M:Mem} {k s:Nat} {c:A3} {j t:Nat} (h:j≠k):c4 ((k,s,c)::M) j t=c4 M j t:=by
 simp only[c4,c8,E5.2 h,cond_false]
theorem QU {M:Mem} {k s:Nat} {c:A3}:c4 ((k,s,c)::M) k 0=some c:=by simp [c4,c8]
theorem WZ {M:Mem} {k s:Nat} {c:A3} (hc:c.flat) {t:Nat} {c':A3} (h:c4 ((k,s,c)::M) k t=some c'):t=0/\c'=c:=by
 cases t with
 | zero=>rw[QU]at h;exact ⟨rfl,(Option.some.inj h).symm⟩
 | succ i =>
  simp only[c4,c8,Nat.beq_refl,cond_true]at h;cases c with
  | mx rows =>
   simp only at h;split at h
   ·rename_i z es hr
    exact (hc i (z,es) hr).elim
   ·cases h
  | hx a v rows=>exact hc.elim
  | vw w rows=>exact hc.elim
  | _=>simp at h
theorem Agw {σ σ':FC} {k k':Nat} {rows:List (Option (Nat × List (List AV)))} (h:A3.flat (.mx rows)):BU σ k 0 rows=BU σ' k' 0 rows:=by
 apply List.ext_getElem?;intro j;rw[ET,ET];cases hr:rows[j]? with
 | none=>rfl
 | some r=>cases r with
  | none=>rfl
  | some x=>exact (h j x hr).elim
theorem RX.gk (h:RX σ tm M st) {s q:Nat} (hm:F9 s M=false) (ht:HD s tm=false) (c:A3) (hf:c.flat) (hc:GK s c=false) (hl:c.nq=true->ES q=true) :
  RX (CJ σ s λ_=>(q,st.own.g8 q)) tm ((s,q,c)::M) ⟨st.tm,st.own.put q ((st.own q).new (c.e7 σ s))⟩:=by
 have Kv : ∀ j t c',c4 M j t=some c'->((st.own.put q ((st.own q).new (c.e7 σ s))) (σ j t).1).e7 (σ j t).2=(st.own (σ j t).1).e7 (σ j t).2:=by
  intro j t c' e;by_cases hs:(σ j t).1=q
  ·have ho:=h.sat.old _ _ _ e
   rw[hs]at ho ⊢;simp only[AH.l8,B1.new];rw[if_neg (by omega)]
  ·rw[AH.gl _ _ _ _ hs]
 have Aq : ∀ s',(st.own s').g8<=((st.own.put q ((st.own q).new (c.e7 σ s))) s').g8:=by
  intro s';by_cases hs:s'=q
  ·subst hs;simp only[AH.l8,B1.new];omega
  ·rw[AH.gl _ _ _ _ hs];exact Nat.le_refl _
 have m8 : ∀ j t c',j≠s->c4 ((s,q,c)::M) j t=some c'->c4 M j t=some c':=λ j t c' hj e=>by rwa [JZ hj]at e
 have Bf : ∀ j t c',c4 M j t=some c'->GK s c'=false/\j≠s:=by
  intro j t c' e;obtain ⟨s1,c0,g1,g2,g3⟩:=GW e;obtain ⟨g4,g5⟩:=OW hm _ _ _ g1;refine ⟨?_,g4⟩;cases t with
  | zero=>rw[g2 rfl];exact g5
  | succ i=>obtain ⟨rows,z,es,_,_,rfl⟩:=g3 i rfl;rfl
 refine ⟨λ j => ?_,⟨?_,?_,?_,?_,?_⟩⟩
 ·rw[dL (XC ht j)];exact h.tm j
 ·intro j s' c' e
  simp only[c8]at e;cases hb:Nat.beq j s<;>simp only[hb,cond_true,cond_false]at e
  ·rw[B8 _ (E5.1 hb)];exact h.sat.site _ _ _ e
  ·simp only[Option.some.injEq,Prod.mk.injEq]at e
   obtain ⟨rfl,rfl⟩:=e;rw[BI.1 hb,BK]
 ·intro j t c' e
  by_cases hj:j=s
  ·subst hj
   obtain ⟨rfl,rfl⟩:=WZ hf e;have hb:c'.e7 (CJ σ j λ_=>(q,st.own.g8 q)) j=c'.e7 σ j:=by
    cases c' with
    | bx cs=>simp only[GK]at hc;simp only[A3.e7,XG hc]
    | rw z es=>rfl
    | bs z es=>simp only[GK]at hc;simp only[A3.e7,lO hc]
    | mx rows=>exact congrArg (DM.mk 1) (Agw hf)
    | hx a v rows=>exact hf.elim
    | vw w rows=>exact hf.elim
   rw[BK,hb];simp [AH.l8,B1.new,AH.g8]
  ·have e':=m8 j t c' hj e
   rw[B8 _ hj,aG (Bf j t c' e').1 hj];exact (Kv j t c' e').trans (h.sat.e7 _ _ _ e')
 ·intro j t c' e
  by_cases hj:j=s
  ·subst hj
   rw[BK];simp [AH.l8,B1.new,AH.g8]
  ·have e':=m8 j t c' hj e
   rw[B8 _ hj];exact Nat.lt_of_lt_of_le (h.sat.old _ _ _ e') (Aq _)
 ·have mv : ∀ j t c',c4 M j t=some c'->σ j t=(q,st.own.g8 q)->False:=by
   intro j t c' e hh;have h2:=h.sat.old _ _ _ e;rw[hh]at h2;exact absurd h2 (Nat.lt_irrefl _)
  intro j t j' t' c1 c2 e1 e2 hj;by_cases h1:j=s<;>by_cases h2:j'=s
  ·subst h1;subst h2
   exact ⟨rfl,(WZ hf e1).1.trans (WZ hf e2).1.symm⟩
  ·subst h1
   rw[BK,B8 _ h2]at hj;exact (mv _ _ _ (m8 _ _ _ h2 e2) hj.symm).elim
  ·subst h2
   rw[BK,B8 _ h1]at hj;exact (mv _ _ _ (m8 _ _ _ h1 e1) hj).elim
  ·rw[B8 _ h1,B8 _ h2]at hj
   exact h.sat.inj _ _ _ _ _ _ (m8 _ _ _ h1 e1) (m8 _ _ _ h2 e2) hj
 ·intro j t c' e hw
  by_cases hj:j=s
  ·subst hj
   obtain ⟨rfl,rfl⟩:=WZ hf e;rw[BK];exact hl hw
  ·rw[B8 _ hj];exact h.sat.low _ _ _ (m8 j t c' hj e) hw
theorem OT {k j:Nat} {x:Nat × A3} : ∀ {M:Mem},c8 (q5 k M) j=some x->j≠k/\c8 M j=some x
 | [],e=>by cases e
 | (i,s,c)::r,e=>by
  simp only[q5]at e;cases hb:Nat.beq k i<;>simp only[hb,cond_true,cond_false]at e
  ·simp only[c8]at e ⊢
   cases hj:Nat.beq j i<;>simp only[hj,cond_true,cond_false]at e ⊢
   ·exact OT e
   ·exact ⟨λ e'=>E5.1 hb (e'.symm.trans (BI.1 hj)),e⟩
  ·obtain ⟨h1,h2⟩:=OT e
   refine ⟨h1,?_⟩;simp only[c8];rw[E5.2 (λ e'=>h1 (e'.trans (BI.1 hb).symm))];exact h2
theorem U7 {own:AH} {p:Nat × Nat} {x:Option DM} {q:Nat × Nat} (h:q≠p):((own.put p.1 ((own p.1).q8 p.2 x)) q.1).e7 q.2=(own q.1).e7 q.2:=by
 by_cases hs:q.1=p.1
 ·rw[hs,AH.l8]
  simp only[B1.q8];rw[if_neg (λ e=>h (Prod.ext hs e))]
 ·rw[AH.gl _ _ _ _ hs]
theorem cR {own:AH} {p:Nat × Nat} {x:Option DM}:((own.put p.1 ((own p.1).q8 p.2 x)) p.1).e7 p.2=x:=by simp [AH.l8,B1.q8]
theorem Y8 {own:AH} {p:Nat × Nat} {x:Option DM} (s:Nat):((own.put p.1 ((own p.1).q8 p.2 x)) s).g8=(own s).g8:=by
 by_cases hs:s=p.1
 ·subst hs;rw[AH.l8];rfl
 ·rw[AH.gl _ _ _ _ hs]
theorem RX.Mi (h:RX σ tm M st) {k s:Nat} {c:A3} (e:c8 M k=some (s,c)) (hf:c.flat) (c':A3) (nf:c'.flat) (hir:c'.nq=true->c.nq=true) :
  RX σ tm ((k,s,c')::M) ⟨st.tm,st.own.put s ((st.own s).q8 (σ k 0).2 (some (c'.e7 σ k)))⟩:=by
 have hs:=h.sat.site _ _ _ e;subst hs;have e0:=DD e;have hg : ∀ j t c1,c4 ((k,(σ k 0).1,c')::M) j t=some c1->(j=k/\t=0/\c1=c')\/(j≠k/\c4 M j t=some c1):=by
  intro j t c1 e1;by_cases hj:j=k
  ·subst hj
   obtain ⟨rfl,rfl⟩:=WZ nf e1;exact Or.inl ⟨rfl,rfl,rfl⟩
  ·rw[JZ hj]at e1
   exact Or.inr ⟨hj,e1⟩
 have qm : ∀ j t c1,c4 ((k,(σ k 0).1,c')::M) j t=some c1 -> ∃ c2,c4 M j t=some c2:=by
  intro j t c1 e1;rcases hg j t c1 e1 with ⟨rfl,rfl,rfl⟩|⟨_,h2⟩
  ·exact ⟨c,e0⟩
  ·exact ⟨c1,h2⟩
 refine ⟨h.tm,⟨?_,?_,?_,?_,?_⟩⟩
 ·intro j s' c1 e1
  simp only[c8]at e1;cases hb:Nat.beq j k<;>simp only[hb,cond_true,cond_false]at e1
  ·exact h.sat.site _ _ _ e1
  ·simp only[Option.some.injEq,Prod.mk.injEq]at e1
   rw[BI.1 hb];exact e1.1
 ·intro j t c1 e1
  rcases hg j t c1 e1 with ⟨rfl,rfl,rfl⟩|⟨h1,h2⟩
  ·exact cR
  ·refine (U7 (λ he => ?_)).trans (h.sat.e7 _ _ _ h2)
   exact h1 (h.sat.inj _ _ _ _ _ _ h2 e0 he).1
 ·intro j t c1 e1
  obtain ⟨c2,e2⟩:=qm _ _ _ e1;show (σ j t).2<((st.own.put (σ k 0).1 ((st.own (σ k 0).1).q8 (σ k 0).2 (some (c'.e7 σ k)))) (σ j t).1).g8;rw[Y8];exact h.sat.old _ _ _ e2
 ·intro j t j' t' c1 c2 e1 e2 hj
  obtain ⟨_,wq⟩:=qm _ _ _ e1;obtain ⟨_,tf⟩:=qm _ _ _ e2;exact h.sat.inj _ _ _ _ _ _ wq tf hj
 ·intro j t c1 e1 hw
  rcases hg j t c1 e1 with ⟨rfl,rfl,rfl⟩|⟨_,h2⟩
  ·exact h.sat.low _ _ _ e0 (hir hw)
  ·exact h.sat.low _ _ _ h2 hw
theorem cD {k t:Nat} {c:A3} (h:c4 M k (t+1)=some c):c.nq=true:=by
 obtain ⟨_,_,_,_,g3⟩:=GW h;obtain ⟨_,_,_,_,_,rfl⟩:=g3 t rfl;rfl
theorem K6 {k j t:Nat} {c:A3} (h:c4 (q5 k M) j t=some c):j≠k/\c4 M j t=some c:=by
 obtain ⟨s,c0,g1,_⟩:=GW h;obtain ⟨h1,h2⟩:=OT g1;refine ⟨h1,?_⟩;unfold c4 at h ⊢;rw[g1]at h;rw[h2];exact h
theorem RX.kill (h:RX σ tm M st) {k s:Nat} {c:A3} (e:c8 M k=some (s,c)) :
  RX σ tm (q5 k M) ⟨st.tm,st.own.put s ((st.own s).q8 (σ k 0).2 none)⟩:=by
 have hs:=h.sat.site _ _ _ e;subst hs;have e0:=DD e;refine ⟨h.tm,⟨?_,?_,?_,?_,?_⟩⟩
 ·intro j s' c1 e1
  exact h.sat.site _ _ _ (OT e1).2
 ·intro j t c1 e1
  obtain ⟨hj,e1⟩:=K6 e1;refine (U7 (λ he => ?_)).trans (h.sat.e7 _ _ _ e1);exact hj (h.sat.inj _ _ _ _ _ _ e1 e0 he).1
 ·intro j t c1 e1
  obtain ⟨hj,e1⟩:=K6 e1;show (σ j t).2<((st.own.put (σ k 0).1 ((st.own (σ k 0).1).q8 (σ k 0).2 none)) (σ j t).1).g8;rw[Y8];exact h.sat.old _ _ _ e1
 ·intro j t j' t' c1 c2 e1 e2 hj
  exact h.sat.inj _ _ _ _ _ _ (K6 e1).2 (K6 e2).2 hj
 ·intro j t c1 e1 hw
  exact h.sat.low _ _ _ (K6 e1).2 hw
theorem RX.Mg (h:RX σ tm M st) {k s i z:Nat} {rows:List (Option (Nat × List (List AV)))} {es es':List (List AV)} (e:c8 M k=some (s,.mx rows)) (hr:rows[i]? = some (some (z,es))) (hl:es'.length=es.length) :
  RX σ tm ((k,s,.mx (rows.set i (some (z,es'))))::M) ⟨st.tm,st.own.put (σ k (i+1)).1 ((st.own (σ k (i+1)).1).q8 (σ k (i+1)).2 (some ⟨z,es'⟩))⟩:=by
 have e1:c4 M k (i+1)=some (.rw z es):=by simp [c4,e,hr]
 have hi:i<rows.length:=(zS hr).1;have jy:BU σ k 0 (rows.set i (some (z,es')))=BU σ k 0 rows:=by
  apply List.ext_getElem?;intro j;rw[ET,ET];by_cases hj:i=j
  ·subst hj;rw[List.getElem?_set_self hi,hr];simp [hl]
  ·rw[List.getElem?_set_ne hj]
 have hg : ∀ j t c1,c4 ((k,s,.mx (rows.set i (some (z,es'))))::M) j t=some c1->(j=k/\t=i+1/\c1 = .rw z es')\/(¬ (j=k/\t=i+1) /\ ∃ c2,c4 M j t=some c2/\c2.e7 σ j=c1.e7 σ j):=by
  intro j t c1 g;by_cases hj:j=k
  ·subst hj
   cases t with
   | zero =>
    rw[QU]at g;obtain rfl:=Option.some.inj g;exact Or.inr ⟨by omega,_,DD e,by simp only[A3.e7,jy]⟩
   | succ t =>
    simp only[c4,c8,Nat.beq_refl,cond_true]at g;by_cases jf:i=t
    ·subst jf
     rw[List.getElem?_set_self hi]at g;exact Or.inl ⟨rfl,rfl,(Option.some.inj g).symm⟩
    ·rw[List.getElem?_set_ne jf]at g
     refine Or.inr ⟨by omega,c1,?_,rfl⟩;simp only[c4,e];exact g
  ·rw[JZ hj]at g
   exact Or.inr ⟨by omega,c1,g,rfl⟩
 have qm : ∀ j t c1,c4 ((k,s,.mx (rows.set i (some (z,es'))))::M) j t=some c1 -> ∃ c2,c4 M j t=some c2:=by
  intro j t c1 g;rcases hg j t c1 g with ⟨rfl,rfl,rfl⟩|⟨_,c2,h2,_⟩
  ·exact ⟨_,e1⟩
  ·exact ⟨c2,h2⟩
 refine ⟨h.tm,⟨?_,?_,?_,?_,?_⟩⟩
 ·intro j s' c1 g
  simp only[c8]at g;cases hb:Nat.beq j k<;>simp only[hb,cond_true,cond_false]at g
  ·exact h.sat.site _ _ _ g
  ·simp only[Option.some.injEq,Prod.mk.injEq]at g
   rw[BI.1 hb,<-g.1];exact h.sat.site _ _ _ e
 ·intro j t c1 g
  rcases hg j t c1 g with ⟨rfl,rfl,rfl⟩|⟨h1,c2,h2,h3⟩
  ·exact cR
  ·rw[<-h3]
   refine (U7 (λ he => ?_)).trans (h.sat.e7 _ _ _ h2);exact h1 (h.sat.inj _ _ _ _ _ _ h2 e1 he)
 ·intro j t c1 g
  obtain ⟨c2,e2⟩:=qm _ _ _ g;show (σ j t).2<((st.own.put (σ k (i+1)).1 ((st.own (σ k (i+1)).1).q8 (σ k (i+1)).2 (some ⟨z,es'⟩))) (σ j t).1).g8;rw[Y8];exact h.sat.old _ _ _ e2
 ·intro j t j' t' c1 c2 g1 g2 hj
  obtain ⟨_,wq⟩:=qm _ _ _ g1;obtain ⟨_,tf⟩:=qm _ _ _ g2;exact h.sat.inj _ _ _ _ _ _ wq tf hj
 ·intro j t c1 g hw
  obtain ⟨c2,e2⟩:=qm _ _ _ g;cases t with
  | zero =>
   by_cases hj:j=k
   ·subst hj;exact h.sat.low _ _ _ (DD e) rfl
   ·rw[JZ hj]at g;exact h.sat.low _ _ _ g hw
  | succ t=>exact h.sat.low _ _ _ e2 (cD e2)
section
variable {k:Nat} {f:Nat->Nat × Nat}
theorem lP {v:AV} (hf:f 0=σ k 0) (h:PK k v=false):A4 (CJ σ k f) v=A4 σ v:=by
 cases v with
 | row j t z o n =>
  simp only[PK]at h;cases hb:Nat.beq j k
  ·simp only[A4,B8 f (E5.1 hb)]
  ·obtain rfl:=BI.1 hb
   simp only[hb,cond_true]at h;cases t with
   | zero=>simp only[A4,BK,hf]
   | succ t=>cases h
 | ptr j t a b =>
  simp only[PK]at h;cases hb:Nat.beq j k
  ·simp only[A4,B8 f (E5.1 hb)]
  ·obtain rfl:=BI.1 hb
   simp only[hb,cond_true]at h;cases t with
   | zero=>simp only[A4,BK,hf]
   | succ t=>cases h
 | _=>rfl
theorem ZL (hf:f 0=σ k 0) : ∀ {cs:List AV},OI k cs=false->cs.map (A4 (CJ σ k f))=cs.map (A4 σ)
 | [],_=>rfl
 | c::r,h=>by
  simp only[OI]at h;cases h1:PK k c<;>simp only[h1,cond_true,cond_false]at h
  ·rw[List.map_cons,List.map_cons,lP hf h1,ZL hf h]
  ·cases h
theorem yB (hf:f 0=σ k 0) : ∀ {es:List (List AV)},V4 k es=false->(es.map λ cs=>cs.map (A4 (CJ σ k f)))=es.map λ cs=>cs.map (A4 σ)
 | [],_=>rfl
 | c::r,h=>by
  simp only[V4]at h;cases h1:OI k c<;>simp only[h1,cond_true,cond_false]at h
  ·rw[List.map_cons,List.map_cons,ZL hf h1,yB hf h]
  ·cases h
theorem ZM {v:AV} (hf:f 0=σ k 0) (h:SN k v=false):BJ (CJ σ k f) v=BJ σ v:=by
 cases v with
 | agg cs=>simp only[SN]at h;simp only[BJ,ZL hf h]
 | fn p f g cs=>simp only[SN]at h;simp only[BJ,ZL hf h]
 | row a b c d e=>exact lP (v := .row a b c d e) hf h
 | ptr a b c d=>exact lP (v := .ptr a b c d) hf h
 | _=>rfl
theorem yC (hf:f 0=σ k 0) : ∀ {cs:List AV},V3 k cs=false->cs.map (BJ (CJ σ k f))=cs.map (BJ σ)
 | [],_=>rfl
 | c::r,h=>by
  simp only[V3]at h;cases h1:SN k c<;>simp only[h1,cond_true,cond_false]at h
  ·rw[List.map_cons,List.map_cons,ZM hf h1,yC hf h]
  ·cases h
theorem yE {v:AV} (hf:f 0=σ k 0) (h:QH k v=false):BC (CJ σ k f) v=BC σ v:=by
 cases v with
 | l6 cs=>simp only[QH]at h;simp only[BC,yC hf h]
 | agg cs=>exact ZM (v := .agg cs) hf h
 | fn p f g cs=>exact ZM (v := .fn p f g cs) hf h
 | row a b c d e=>exact ZM (v := .row a b c d e) hf h
 | ptr a b c d=>exact ZM (v := .ptr a b c d) hf h
 | _=>rfl
theorem fI : ∀ {tm:Tm},IU k tm=false -> ∀ j,QH k (tg tm j)=false
 | [],_,_=>rfl
 | (i,v)::r,h,j=>by
  simp only[IU]at h;cases h1:QH k v<;>simp only[h1,cond_true,cond_false]at h
  ·simp only[tg]
   cases Nat.beq j i
   ·exact fI h j
   ·exact h1
  ·cases h
theorem fH : ∀ {M:Mem},HL k M=false -> ∀ j s c,c8 M j=some (s,c)->OH k c=false
 | [],_,_,_,_,e=>by cases e
 | (i,s0,c0)::r,h,j,s,c,e=>by
  simp only[HL]at h;cases h1:OH k c0<;>simp only[h1,cond_true,cond_false]at h
  ·simp only[c8]at e
   cases h2:Nat.beq j i<;>simp only[h2,cond_true,cond_false]at e
   ·exact fH h j s c e
   ·simp only[Option.some.injEq,Prod.mk.injEq]at e
    obtain ⟨_,rfl⟩:=e;exact h1
  ·cases h
theorem oB {c:A3} {j:Nat} (hf:f 0=σ k 0) (h:OH k c=false) (hj:j≠k):c.e7 (CJ σ k f) j=c.e7 σ j:=by
 cases c with
 | bx cs=>simp only[OH]at h;simp only[A3.e7,ZL hf h]
 | rw z es=>rfl
 | bs z es=>simp only[OH]at h;simp only[A3.e7,yB hf h]
 | mx rows=>simp only[A3.e7];rw[QV rows 0 λ i _=>by rw[B8 f hj]]
 | hx a v rows=>simp only[A3.e7];rw[QV rows 0 λ i _=>by rw[B8 f hj]]
 | vw w rows=>simp only[A3.e7];rw[QV rows 0 λ i _=>by rw[B8 f hj]]
end
theorem RX.Br (h:RX σ tm M st) {k k2 s s2 i z:Nat} {rows:List (Option (Nat × List (List AV)))} {es:List (List AV)} {c0:A3} (e:c8 M k=some (s,c0)) (fp:c0 = .mx rows \/ ∃ v,c0 = .hx i v rows) (e2:c8 M k2=some (s2,.rw z es)) (hk:k≠k2) (cg:IU k tm=false) (nc:HL k M=false) (hi:i<rows.length) :
  RX (CJ σ k λ t=>if t=i+1 then σ k2 0 else σ k t) tm ((k,s,.mx (rows.set i (some (z,es))))::q5 k2 M) ⟨st.tm,st.own.put s ((st.own s).q8 (σ k 0).2 (some ⟨1,(BU σ k 0 rows).set i [.row (σ k2 0).1 (σ k2 0).2 z 0 es.length]⟩))⟩:=by
 have hs:=h.sat.site _ _ _ e;subst hs;have r0:=DD e;have r2:=DD e2;have f0:(λ t=>if t=i+1 then σ k2 0 else σ k t) 0=σ k 0:=by simp
 have jy:BU (CJ σ k λ t=>if t=i+1 then σ k2 0 else σ k t) k 0 (rows.set i (some (z,es)))=(BU σ k 0 rows).set i [.row (σ k2 0).1 (σ k2 0).2 z 0 es.length]:=by
  apply List.ext_getElem?;intro j;rw[ET,BK];by_cases hj:i=j
  ·subst hj
   rw[List.getElem?_set_self hi,List.getElem?_set_self (by rw[EU];exact hi)];simp
  ·rw[List.getElem?_set_ne hj,List.getElem?_set_ne hj,ET]
   congr 1;funext r
   cases r with
   | none=>rfl
   | some x=>simp only[Nat.zero_add];rw[if_neg (by omega)]
 have hg : ∀ j t c,c4 ((k,(σ k 0).1,.mx (rows.set i (some (z,es))))::q5 k2 M) j t=some c ->
   (j=k/\t=0/\c = .mx (rows.set i (some (z,es))))\/(j=k/\t=i+1/\c = .rw z es)\/(j=k/\t≠0/\t≠i+1/\c4 M k t=some c)\/(j≠k/\j≠k2/\c4 M j t=some c):=by
  intro j t c g;by_cases hj:j=k
  ·subst hj
   cases t with
   | zero=>rw[QU]at g;exact Or.inl ⟨rfl,rfl,(Option.some.inj g).symm⟩
   | succ t =>
    simp only[c4,c8,Nat.beq_refl,cond_true]at g;by_cases jf:i=t
    ·subst jf
     rw[List.getElem?_set_self hi]at g;exact Or.inr (Or.inl ⟨rfl,rfl,(Option.some.inj g).symm⟩)
    ·rw[List.getElem?_set_ne jf]at g
     refine Or.inr (Or.inr (Or.inl ⟨rfl,by omega,by omega,?_⟩));rcases fp with rfl|⟨v,rfl⟩
     ·simp only[c4,e]
      exact g
     ·simp only[c4,e]
      exact g
  ·rw[JZ hj]at g
   obtain ⟨g1,g2⟩:=K6 g;exact Or.inr (Or.inr (Or.inr ⟨hj,g1,g2⟩))
 have Jj : ∀ j t c,c4 M j t=some c->OH k c=false:=by
  intro j t c g;obtain ⟨s1,c0,g1,g2,g3⟩:=GW g;cases t with
  | zero=>rw[g2 rfl];exact fH nc _ _ _ g1
  | succ t=>obtain ⟨_,_,_,_,_,rfl⟩:=g3 t rfl;rfl
 refine ⟨λ j => ?_,⟨?_,?_,?_,?_,?_⟩⟩
 ·rw[yE (f:=λ t=>if t=i+1 then σ k2 0 else σ k t) f0 (fI cg j)];exact h.tm j
 ·intro j s' c g
  simp only[c8]at g;cases hb:Nat.beq j k<;>simp only[hb,cond_true,cond_false]at g
  ·rw[B8 _ (E5.1 hb)];exact h.sat.site _ _ _ (OT g).2
  ·simp only[Option.some.injEq,Prod.mk.injEq]at g
   rw[BI.1 hb,BK,<-g.1];simp
 ·intro j t c g
  rcases hg j t c g with ⟨rfl,rfl,rfl⟩|⟨rfl,rfl,rfl⟩|⟨rfl,h0,h1,g2⟩|⟨h0,h1,g2⟩
  ·rw[BK]
   simp only[A3.e7,jy];exact cR
  ·rw[BK]
   simp only[if_true];exact (U7 (λ he=>hk (h.sat.inj _ _ _ _ _ _ r2 r0 he).1.symm)).trans (h.sat.e7 _ _ _ r2)
  ·rw[BK]
   simp only[h1,if_false];have hb:c.e7 (CJ σ j λ t=>if t=i+1 then σ k2 0 else σ j t) j=c.e7 σ j:=by
    obtain ⟨_,_,_,_,g3⟩:=GW g2;obtain ⟨t',rfl⟩ : ∃ t',t=t'+1:=⟨t-1,by omega⟩;obtain ⟨_,_,_,_,_,rfl⟩:=g3 t' rfl;rfl
   rw[hb];exact (U7 (λ he=>h0 (h.sat.inj _ _ _ _ _ _ g2 r0 he).2)).trans (h.sat.e7 _ _ _ g2)
  ·rw[B8 _ h0,oB (f:=λ t=>if t=i+1 then σ k2 0 else σ k t) f0 (Jj _ _ _ g2) h0]
   exact (U7 (λ he=>h0 (h.sat.inj _ _ _ _ _ _ g2 r0 he).1)).trans (h.sat.e7 _ _ _ g2)
 ·intro j t c g
  rw[Y8];rcases hg j t c g with ⟨rfl,rfl,rfl⟩|⟨rfl,rfl,rfl⟩|⟨rfl,h0,h1,g2⟩|⟨h0,h1,g2⟩
  ·rw[BK];simpa using h.sat.old _ _ _ r0
  ·rw[BK];simpa using h.sat.old _ _ _ r2
  ·rw[BK];simp only[h1,if_false];exact h.sat.old _ _ _ g2
  ·rw[B8 _ h0];exact h.sat.old _ _ _ g2
 ·-- each name is that of Da in the old memory
  have hold : ∀ j t c,c4 ((k,(σ k 0).1,.mx (rows.set i (some (z,es))))::q5 k2 M) j t=some c -> ∃ j0 t0 c0,c4 M j0 t0=some c0/\(CJ σ k λ t=>if t=i+1 then σ k2 0 else σ k t) j t=σ j0 t0/\((j0=k2/\t0=0/\j=k/\t=i+1)\/(j0=j/\t0=t/\j≠k2)):=by
   intro j t c g;rcases hg j t c g with ⟨rfl,rfl,rfl⟩|⟨rfl,rfl,rfl⟩|⟨rfl,h0,h1,g2⟩|⟨h0,h1,g2⟩
   ·exact ⟨_,_,_,r0,by rw[BK];simp,Or.inr ⟨rfl,rfl,hk⟩⟩
   ·exact ⟨_,_,_,r2,by rw[BK];simp,Or.inl ⟨rfl,rfl,rfl,rfl⟩⟩
   ·exact ⟨_,_,_,g2,by rw[BK];simp [h1],Or.inr ⟨rfl,rfl,hk⟩⟩
   ·exact ⟨_,_,_,g2,by rw[B8 _ h0],Or.inr ⟨rfl,rfl,h1⟩⟩
  intro j t j' t' c c' g g' hj;obtain ⟨j0,t0,c0,a1,a2,a3⟩:=hold j t c g;obtain ⟨j1,t1,c1,b1,b2,b3⟩:=hold j' t' c' g';rw[a2,b2]at hj;obtain ⟨q1,q2⟩:=h.sat.inj _ _ _ _ _ _ a1 b1 hj;rcases a3 with ⟨x1,x2,x3,x4⟩|⟨x1,x2,x3⟩<;>rcases b3 with ⟨y1,y2,y3,y4⟩|⟨y1,y2,y3⟩
  ·exact ⟨x3.trans y3.symm,x4.trans y4.symm⟩
  ·exact absurd (y1.symm.trans (q1.symm.trans x1)) y3
  ·exact absurd (x1.symm.trans (q1.trans y1)) x3
  ·exact ⟨x1.symm.trans (q1.trans y1),x2.symm.trans (q2.trans y2)⟩
 ·intro j t c g hw
  rcases hg j t c g with ⟨rfl,rfl,rfl⟩|⟨rfl,rfl,rfl⟩|⟨rfl,h0,h1,g2⟩|⟨h0,h1,g2⟩
  ·rw[BK];simpa using h.sat.low _ _ _ r0 (by rcases fp with rfl|⟨v,rfl⟩<;>rfl)
  ·rw[BK];simpa using h.sat.low _ _ _ r2 rfl
  ·rw[BK];simp only[h1,if_false];exact h.sat.low _ _ _ g2 hw
  ·rw[B8 _ h0];exact h.sat.low _ _ _ g2 hw
theorem UK {own:AH} {q t:Nat} {b:DM} {p:Nat × Nat} (h:p≠(q,t)) (ho:p.2<(own p.1).g8):((own.put q (((own q).q8 t none).new b)) p.1).e7 p.2=(own p.1).e7 p.2:=by
 by_cases hs:p.1=q
 ·rw[hs]at ho ⊢
  rw[AH.l8];simp only[B1.new,B1.q8];have h1 : ¬ p.2=(own q).g8:=by omega
  have h2 : ¬ p.2=t:=λ e=>h (Prod.ext hs e)
  simp only[h1,h2,if_false]
 ·rw[AH.gl _ _ _ _ hs]
theorem UM {own:AH} {q t:Nat} {b:DM} (s:Nat):(own s).g8<=((own.put q (((own q).q8 t none).new b)) s).g8:=by
 by_cases hs:s=q
 ·subst hs;rw[AH.l8];simp only[B1.new,B1.q8];omega
 ·rw[AH.gl _ _ _ _ hs];exact Nat.le_refl _
theorem RX.Hw (h:RX σ tm M st) {s key sk i z:Nat} {rows:List (Option (Nat × List (List AV)))} {es es':List (List AV)} (e:c8 M key=some (sk,.mx rows)) (hr:rows[i]? = some (some (z,es))) (hm:F9 s M=false) (ht:HD s tm=false) :
  RX (CJ σ s λ_=>((σ key (i+1)).1,st.own.g8 (σ key (i+1)).1)) tm ((s,(σ key (i+1)).1,.rw z es')::(key,sk,.hx i (.row (σ key (i+1)).1 (σ key (i+1)).2 z 0 es.length) (rows.set i none))::q5 key M)
   ⟨st.tm,st.own.put (σ key (i+1)).1 (((st.own (σ key (i+1)).1).q8 (σ key (i+1)).2 none).new ⟨z,es'⟩)⟩:=by
 have r0:=DD e;have e1:c4 M key (i+1)=some (.rw z es):=by simp [c4,e,hr]
 have hi:i<rows.length:=(zS hr).1;have Ep:key≠s:=(OW hm _ _ _ e).1;have jy:(BU (CJ σ s λ_=>((σ key (i+1)).1,st.own.g8 (σ key (i+1)).1)) key 0 (rows.set i none)).set i [.row (σ key (i+1)).1 (σ key (i+1)).2 z 0 es.length]=BU σ key 0 rows:=by
  apply List.ext_getElem?;intro j;by_cases hj:i=j
  ·subst hj
   rw[List.getElem?_set_self (by rw[EU,List.length_set];exact hi),ET,hr];simp
  ·rw[List.getElem?_set_ne hj,ET,ET,List.getElem?_set_ne hj,B8 _ Ep]
 have Bf : ∀ j t c',c4 M j t=some c'->GK s c'=false/\j≠s:=by
  intro j t c' g;obtain ⟨s1,c0,g1,g2,g3⟩:=GW g;obtain ⟨g4,g5⟩:=OW hm _ _ _ g1;refine ⟨?_,g4⟩;cases t with
  | zero=>rw[g2 rfl];exact g5
  | succ i=>obtain ⟨rows,z,es,_,_,rfl⟩:=g3 i rfl;rfl
 have hg : ∀ j t c,c4 ((s,(σ key (i+1)).1,.rw z es')::(key,sk,.hx i (.row (σ key (i+1)).1 (σ key (i+1)).2 z 0 es.length) (rows.set i none))::q5 key M) j t=some c ->
   (j=s/\t=0/\c = .rw z es')\/(j=key/\t=0/\c = .hx i (.row (σ key (i+1)).1 (σ key (i+1)).2 z 0 es.length) (rows.set i none))\/(j≠s /\ ¬ (j=key/\t=0) /\ ¬ (j=key/\t=i+1)/\(j=key -> ∃ z es,c = .rw z es)/\c4 M j t=some c):=by
  intro j t c g;by_cases hj:j=s
  ·subst hj
   obtain ⟨rfl,rfl⟩:=WZ (c := .rw z es') trivial g;exact Or.inl ⟨rfl,rfl,rfl⟩
  ·rw[JZ hj]at g
   by_cases hk:j=key
   ·subst hk
    cases t with
    | zero=>rw[QU]at g;exact Or.inr (Or.inl ⟨rfl,rfl,(Option.some.inj g).symm⟩)
    | succ t =>
     simp only[c4,c8,Nat.beq_refl,cond_true]at g;by_cases jf:i=t
     ·subst jf
      rw[List.getElem?_set_self hi]at g;cases g
     ·rw[List.getElem?_set_ne jf]at g
      refine Or.inr (Or.inr ⟨hj,by omega,by omega,λ_ => ?_,?_⟩)
      ·split at g
       ·exact ⟨_,_,(Option.some.inj g).symm⟩
       ·cases g
      ·simp only[c4,e]
       exact g
   ·rw[JZ hk]at g
    obtain ⟨g1,g2⟩:=K6 g;exact Or.inr (Or.inr ⟨hj,by omega,by omega,λ h=>absurd h hk,g2⟩)
 refine ⟨λ j => ?_,⟨?_,?_,?_,?_,?_⟩⟩
 ·rw[dL (XC ht j)];exact h.tm j
 ·intro j s1 c g
  simp only[c8]at g;cases hb:Nat.beq j s<;>simp only[hb,cond_true,cond_false]at g
  ·rw[B8 _ (E5.1 hb)]
   cases u7:Nat.beq j key<;>simp only[u7,cond_true,cond_false]at g
   ·exact h.sat.site _ _ _ (OT g).2
   ·simp only[Option.some.injEq,Prod.mk.injEq]at g
    rw[BI.1 u7,<-g.1];exact h.sat.site _ _ _ e
  ·simp only[Option.some.injEq,Prod.mk.injEq]at g
   rw[BI.1 hb,BK,<-g.1]
 ·intro j t c g
  rcases hg j t c g with ⟨rfl,rfl,rfl⟩|⟨rfl,rfl,rfl⟩|⟨h0,h1,h2,h3,g2⟩
  ·rw[BK]
   simp [AH.l8,B1.new,AH.g8,B1.q8,A3.e7]
  ·rw[B8 _ Ep]
   simp only[A3.e7,jy];exact (UK (λ he=>absurd (h.sat.inj _ _ _ _ _ _ r0 e1 he).2 (by omega)) (h.sat.old _ _ _ r0)).trans (h.sat.e7 _ _ _ r0)
  ·rw[B8 _ h0,aG (Bf _ _ _ g2).1 h0]
   exact (UK (λ he=>h2 (h.sat.inj _ _ _ _ _ _ g2 e1 he)) (h.sat.old _ _ _ g2)).trans (h.sat.e7 _ _ _ g2)
 ·intro j t c g
  rcases hg j t c g with ⟨rfl,rfl,rfl⟩|⟨rfl,rfl,rfl⟩|⟨h0,h1,h2,h3,g2⟩
  ·rw[BK]
   simp [AH.l8,B1.new,AH.g8,B1.q8]
  ·rw[B8 _ Ep]
   exact Nat.lt_of_lt_of_le (h.sat.old _ _ _ r0) (UM _)
  ·rw[B8 _ h0]
   exact Nat.lt_of_lt_of_le (h.sat.old _ _ _ g2) (UM _)
 ·have hold : ∀ j t c,c4 ((s,(σ key (i+1)).1,.rw z es')::(key,sk,.hx i (.row (σ key (i+1)).1 (σ key (i+1)).2 z 0 es.length) (rows.set i none))::q5 key M) j t=some c->(j=s/\t=0)\/(j≠s /\ ∃ c0,c4 M j t=some c0):=by
   intro j t c g;rcases hg j t c g with ⟨rfl,rfl,rfl⟩|⟨rfl,rfl,rfl⟩|⟨h0,h1,h2,h3,g2⟩
   ·exact Or.inl ⟨rfl,rfl⟩
   ·exact Or.inr ⟨Ep,_,r0⟩
   ·exact Or.inr ⟨h0,_,g2⟩
  have nr : ∀ j0 t0 c0,c4 M j0 t0=some c0->((σ key (i+1)).1,st.own.g8 (σ key (i+1)).1)≠σ j0 t0:=by
   intro j0 t0 c0 g he;have:=h.sat.old _ _ _ g
   rw[<-he]at this;exact absurd this (Nat.lt_irrefl _)
  intro j t j' t' c c' g g' hj;rcases hold j t c g with ⟨rfl,rfl⟩|⟨a1,c1,a2⟩<;>rcases hold j' t' c' g' with ⟨rfl,rfl⟩|⟨b1,c2,b2⟩
  ·exact ⟨rfl,rfl⟩
  ·rw[BK,B8 _ b1]at hj;exact absurd hj (nr _ _ _ b2)
  ·rw[BK,B8 _ a1]at hj;exact absurd hj.symm (nr _ _ _ a2)
  ·rw[B8 _ a1,B8 _ b1]at hj
   exact h.sat.inj _ _ _ _ _ _ a2 b2 hj
 ·intro j t c g hw
  rcases hg j t c g with ⟨rfl,rfl,rfl⟩|⟨rfl,rfl,rfl⟩|⟨h0,h1,h2,h3,g2⟩
  ·rw[BK];exact h.sat.low _ _ _ e1 rfl
  ·rw[B8 _ Ep];exact h.sat.low _ _ _ r0 rfl
  ·rw[B8 _ h0];exact h.sat.low _ _ _ g2 hw
theorem RX.view (h:RX σ tm M st) {k s:Nat} {c0:A3} {rows:List (Option (Nat × List (List AV)))} {w:List Nat} (e:c8 M k=some (s,c0)) (fp:c0 = .mx rows \/ ∃ w0,c0 = .vw w0 rows) :
  RX σ tm ((k,s,.vw w rows)::M) ⟨st.tm,st.own.put s ((st.own s).q8 (σ k 0).2 (some (A3.e7 σ k (.vw w rows))))⟩:=by
 have hs:=h.sat.site _ _ _ e;subst hs;have r0:=DD e;have hg : ∀ j t c,c4 ((k,(σ k 0).1,.vw w rows)::M) j t=some c->(j=k/\t=0/\c = .vw w rows)\/(¬ (j=k/\t=0)/\c4 M j t=some c):=by
  intro j t c g;by_cases hj:j=k
  ·subst hj
   cases t with
   | zero=>rw[QU]at g;exact Or.inl ⟨rfl,rfl,(Option.some.inj g).symm⟩
   | succ t =>
    refine Or.inr ⟨by omega,?_⟩;simp only[c4,c8,Nat.beq_refl,cond_true]at g;rcases fp with rfl|⟨w0,rfl⟩
    ·simp only[c4,e]
     exact g
    ·simp only[c4,e]
     exact g
  ·rw[JZ hj]at g
   exact Or.inr ⟨by omega,g⟩
 have qm : ∀ j t c1,c4 ((k,(σ k 0).1,.vw w rows)::M) j t=some c1 -> ∃ c2,c4 M j t=some c2:=by
  intro j t c1 g;rcases hg j t c1 g with ⟨rfl,rfl,rfl⟩|⟨_,h2⟩
  ·exact ⟨_,r0⟩
  ·exact ⟨_,h2⟩
 refine ⟨h.tm,⟨?_,?_,?_,?_,?_⟩⟩
 ·intro j s' c1 g
  simp only[c8]at g;cases hb:Nat.beq j k<;>simp only[hb,cond_true,cond_false]at g
  ·exact h.sat.site _ _ _ g
  ·simp only[Option.some.injEq,Prod.mk.injEq]at g
   rw[BI.1 hb];exact g.1
 ·intro j t c1 g
  rcases hg j t c1 g with ⟨rfl,rfl,rfl⟩|⟨h1,h2⟩
  ·exact cR
  ·refine (U7 (λ he => ?_)).trans (h.sat.e7 _ _ _ h2)
   exact h1 (h.sat.inj _ _ _ _ _ _ h2 r0 he)
 ·intro j t c1 g
  obtain ⟨c2,e2⟩:=qm _ _ _ g;show (σ j t).2<((st.own.put (σ k 0).1 ((st.own (σ k 0).1).q8 (σ k 0).2 _)) (σ j t).1).g8;rw[Y8];exact h.sat.old _ _ _ e2
 ·intro j t j' t' c1 c2 g1 g2 hj
  obtain ⟨_,wq⟩:=qm _ _ _ g1;obtain ⟨_,tf⟩:=qm _ _ _ g2;exact h.sat.inj _ _ _ _ _ _ wq tf hj
 ·intro j t c1 g hw
  rcases hg j t c1 g with ⟨rfl,rfl,rfl⟩|⟨_,h2⟩
  ·exact h.sat.low _ _ _ r0 (by rcases fp with rfl|⟨w0,rfl⟩<;>rfl)
  ·exact h.sat.low _ _ _ h2 hw
theorem RX.Bv (h:RX σ tm M st) {k s:Nat} {rows s9:List (Option (Nat × List (List AV)))} {w:List Nat} (e:c8 M k=some (s,.vw w rows)) (hl:s9.length=w.length)
  (hw : ∀ (i t:Nat),w[i]? = some t -> ∃ r,rows[t]? = some r/\s9[i]? = some r) (hi : ∀ (i i' t:Nat),w[i]? = some t->w[i']? = some t->i=i') (cg:IU k tm=false) (nc:HL k M=false) :
  ∃ σ',RX σ' tm ((k,s,.mx s9)::M) st:=by
 have hs:=h.sat.site _ _ _ e;subst hs;have r0:=DD e;obtain ⟨f,hf⟩ : ∃ f:Nat->Nat × Nat,f=λ t=>match t with|0=>σ k 0|i+1=>match w[i]? with|some v=>σ k (v+1)|none=>σ k (i+1):=⟨_,rfl⟩
 have f0:f 0=σ k 0:=by rw[hf]
 have f1 : ∀ i v,w[i]? = some v->f (i+1)=σ k (v+1):=λ i v hv=>by rw[hf];simp only[hv]
 have Jj : ∀ j t c,c4 M j t=some c->OH k c=false:=by
  intro j t c g;obtain ⟨s1,c0,g1,g2,g3⟩:=GW g;cases t with
  | zero=>rw[g2 rfl];exact fH nc _ _ _ g1
  | succ t=>obtain ⟨_,_,_,_,_,rfl⟩:=g3 t rfl;rfl
 have Bm : ∀ i,i<s9.length -> ∃ v r,w[i]? = some v/\rows[v]? = some r/\s9[i]? = some r:=λ i hi=>by
  obtain ⟨v,hv⟩ : ∃ v,w[i]? = some v:=⟨_,zE (by omega)⟩;obtain ⟨r,h1,h2⟩:=hw i v hv;exact ⟨v,r,hv,h1,h2⟩
 have jy:BU (CJ σ k f) k 0 s9=w.map λ t=>((BU σ k 0 rows)[t]?).getD []:=by
  apply List.ext_getElem?;intro i;rw[ET,BK,List.getElem?_map];by_cases aw:i<s9.length
  ·obtain ⟨v,r,h1,h2,h3⟩:=Bm i aw
   rw[h3,h1,Option.map_some,Option.map_some,ET,h2,Option.map_some,Option.getD_some,Nat.zero_add,Nat.zero_add,f1 i v h1]
  ·rw[List.getElem?_eq_none (by omega),List.getElem?_eq_none (by omega)];rfl
 have hg : ∀ j t c,c4 ((k,(σ k 0).1,.mx s9)::M) j t=some c ->
   (j=k/\t=0/\c = .mx s9)\/(∃ i v,j=k/\t=i+1/\w[i]? = some v/\c4 M k (v+1)=some c)\/(j≠k/\c4 M j t=some c):=by
  intro j t c g;by_cases hj:j=k
  ·subst hj
   cases t with
   | zero=>rw[QU]at g;exact Or.inl ⟨rfl,rfl,(Option.some.inj g).symm⟩
   | succ t =>
    simp only[c4,c8,Nat.beq_refl,cond_true]at g;by_cases ck:t<s9.length
    ·obtain ⟨v,r,h1,h2,h3⟩:=Bm t ck
     refine Or.inr (Or.inl ⟨t,v,rfl,rfl,h1,?_⟩);rw[h3]at g;simp only[c4,e,h2];exact g
    ·rw[List.getElem?_eq_none (by omega)]at g;cases g
  ·rw[JZ hj]at g
   exact Or.inr (Or.inr ⟨hj,g⟩)
 have hcr : ∀ v c,c4 M k (v+1)=some c -> ∃ z es,c = .rw z es:=λ v c g=>by
  obtain ⟨_,_,_,_,g3⟩:=GW g;obtain ⟨_,z,es,_,_,rfl⟩:=g3 v rfl;exact ⟨z,es,rfl⟩
 refine ⟨CJ σ k f,λ j => ?_,⟨?_,?_,?_,?_,?_⟩⟩
 ·rw[yE f0 (fI cg j)];exact h.tm j
 ·intro j s' c g
  simp only[c8]at g;cases hb:Nat.beq j k<;>simp only[hb,cond_true,cond_false]at g
  ·rw[B8 _ (E5.1 hb)];exact h.sat.site _ _ _ g
  ·simp only[Option.some.injEq,Prod.mk.injEq]at g
   rw[BI.1 hb,BK,<-g.1,f0]
 ·intro j t c g
  rcases hg j t c g with ⟨rfl,rfl,rfl⟩|⟨i,v,rfl,rfl,h1,g2⟩|⟨h0,g2⟩
  ·rw[BK,f0]
   have:=h.sat.e7 _ _ _ r0
   simp only[A3.e7,jy]at this ⊢;exact this
  ·rw[BK,f1 i v h1]
   obtain ⟨z,es,rfl⟩:=hcr v c g2;exact h.sat.e7 _ _ _ g2
  ·rw[B8 _ h0,oB f0 (Jj _ _ _ g2) h0]
   exact h.sat.e7 _ _ _ g2
 ·intro j t c g
  rcases hg j t c g with ⟨rfl,rfl,rfl⟩|⟨i,v,rfl,rfl,h1,g2⟩|⟨h0,g2⟩
  ·rw[BK,f0];exact h.sat.old _ _ _ r0
  ·rw[BK,f1 i v h1];exact h.sat.old _ _ _ g2
  ·rw[B8 _ h0];exact h.sat.old _ _ _ g2
 ·have hold : ∀ j t c,c4 ((k,(σ k 0).1,.mx s9)::M) j t=some c -> ∃ j0 t0 c0,c4 M j0 t0=some c0/\(CJ σ k f) j t=σ j0 t0/\((j=k/\j0=k/\((t=0/\t0=0) \/ ∃ i v,t=i+1/\t0=v+1/\w[i]? = some v))\/(j≠k/\j0=j/\t0=t)):=by
   intro j t c g;rcases hg j t c g with ⟨rfl,rfl,rfl⟩|⟨i,v,rfl,rfl,h1,g2⟩|⟨h0,g2⟩
   ·exact ⟨_,_,_,r0,by rw[BK,f0],Or.inl ⟨rfl,rfl,Or.inl ⟨rfl,rfl⟩⟩⟩
   ·exact ⟨_,_,_,g2,by rw[BK,f1 i v h1],Or.inl ⟨rfl,rfl,Or.inr ⟨i,v,rfl,rfl,h1⟩⟩⟩
   ·exact ⟨_,_,_,g2,by rw[B8 _ h0],Or.inr ⟨h0,rfl,rfl⟩⟩
  intro j t j' t' c c' g g' hj;obtain ⟨j0,t0,c0,a1,a2,a3⟩:=hold j t c g;obtain ⟨j1,t1,c1,b1,b2,b3⟩:=hold j' t' c' g';rw[a2,b2]at hj;obtain ⟨q1,q2⟩:=h.sat.inj _ _ _ _ _ _ a1 b1 hj;rcases a3 with ⟨x1,x2,x3⟩|⟨x1,x2,x3⟩<;>rcases b3 with ⟨y1,y2,y3⟩|⟨y1,y2,y3⟩
  ·refine ⟨x1.trans y1.symm,?_⟩
   rcases x3 with ⟨x4,x5⟩|⟨i,v,x4,x5,x6⟩<;>rcases y3 with ⟨y4,y5⟩|⟨i',v',y4,y5,y6⟩
   ·omega
   ·omega
   ·omega
   ·obtain rfl:v=v':=by omega
    have:=hi i i' v x6 y6
    omega
  ·exact absurd (y2.symm.trans (q1.symm.trans x2)) y1
  ·exact absurd (x2.symm.trans (q1.trans y2)) x1
  ·exact ⟨x2.symm.trans (q1.trans y2),x3.symm.trans (q2.trans y3)⟩
 ·intro j t c g hw
  rcases hg j t c g with ⟨rfl,rfl,rfl⟩|⟨i,v,rfl,rfl,h1,g2⟩|⟨h0,g2⟩
  ·rw[BK,f0];exact h.sat.low _ _ _ r0 rfl
  ·rw[BK,f1 i v h1];exact h.sat.low _ _ _ g2 (cD g2)
  ·rw[B8 _ h0];exact h.sat.low _ _ _ g2 hw
theorem RX.Hy (h:RX σ tm M st) {s key s':Nat} {rows:List (Option (Nat × List (List AV)))} (e:c8 M key=some (s',.mx rows)) (hm:F9 s M=false) (ht:HD s tm=false) :
  RX (CJ σ s λ t=>match t with|0=>(s',st.own.g8 s')|i+1=>σ key (i+1)) tm ((s,s',.mx (rows++[none]))::q5 key M)
   ⟨st.tm,st.own.put s' (((st.own s').q8 (σ key 0).2 none).new ⟨1,BU σ key 0 rows++[[.nil]]⟩)⟩:=by
 have hs:=h.sat.site _ _ _ e;subst hs;have r0:=DD e;generalize hF:(λ t=>match t with|0=>((σ key 0).1,st.own.g8 (σ key 0).1)|i+1=>σ key (i+1):Nat->Nat × Nat)=F;have F0:F 0=((σ key 0).1,st.own.g8 (σ key 0).1):=by rw[<-hF]
 have F1 : ∀ i,F (i+1)=σ key (i+1):=by intro i;rw[<-hF]
 have jy:BU (CJ σ s F) s 0 (rows++[none])=BU σ key 0 rows++[[.nil]]:=by
  apply List.ext_getElem?;intro j;rw[ET,BK];rcases Nat.lt_trichotomy j rows.length with hj|hj|hj
  ·rw[List.getElem?_append_left hj,List.getElem?_append_left (by rw[EU];exact hj),ET]
   congr 1;funext r
   cases r with
   | none=>rfl
   | some x=>simp only[Nat.zero_add];rw[F1]
  ·subst hj
   rw[List.getElem?_append_right (Nat.le_refl _),List.getElem?_append_right (by rw[EU];exact Nat.le_refl _),EU];simp
  ·rw[List.getElem?_eq_none (by simp;omega),List.getElem?_eq_none (by simp [EU];omega)];rfl
 have Bf : ∀ j t c',c4 M j t=some c'->GK s c'=false/\j≠s:=by
  intro j t c' g;obtain ⟨s1,c0,g1,g2,g3⟩:=GW g;obtain ⟨g4,g5⟩:=OW hm _ _ _ g1;refine ⟨?_,g4⟩;cases t with
  | zero=>rw[g2 rfl];exact g5
  | succ i=>obtain ⟨rows,z,es,_,_,rfl⟩:=g3 i rfl;rfl
 have hg : ∀ j t c,c4 ((s,(σ key 0).1,.mx (rows++[none]))::q5 key M) j t=some c ->
   (j=s/\t=0/\c = .mx (rows++[none]))\/(j=s/\t≠0/\c4 M key t=some c)\/(j≠s/\j≠key/\c4 M j t=some c):=by
  intro j t c g;by_cases hj:j=s
  ·subst hj
   cases t with
   | zero=>rw[QU]at g;exact Or.inl ⟨rfl,rfl,(Option.some.inj g).symm⟩
   | succ t =>
    simp only[c4,c8,Nat.beq_refl,cond_true]at g;rcases Nat.lt_trichotomy t rows.length with oe|oe|oe
    ·rw[List.getElem?_append_left oe]at g
     refine Or.inr (Or.inl ⟨rfl,by omega,?_⟩);simp only[c4,e];exact g
    ·subst oe
     rw[List.getElem?_append_right (Nat.le_refl _),Nat.sub_self]at g;simp at g
    ·rw[List.getElem?_eq_none (by simp;omega)]at g;cases g
  ·rw[JZ hj]at g
   obtain ⟨g1,g2⟩:=K6 g;exact Or.inr (Or.inr ⟨hj,g1,g2⟩)
 refine ⟨λ j => ?_,⟨?_,?_,?_,?_,?_⟩⟩
 ·rw[dL (XC ht j)];exact h.tm j
 ·intro j s1 c g
  simp only[c8]at g;cases hb:Nat.beq j s<;>simp only[hb,cond_true,cond_false]at g
  ·rw[B8 _ (E5.1 hb)];exact h.sat.site _ _ _ (OT g).2
  ·simp only[Option.some.injEq,Prod.mk.injEq]at g
   rw[BI.1 hb,BK,F0,<-g.1]
 ·intro j t c g
  rcases hg j t c g with ⟨rfl,rfl,rfl⟩|⟨rfl,h0,g2⟩|⟨h0,h1,g2⟩
  ·rw[BK,F0]
   simp only[A3.e7,jy];simp [AH.l8,B1.new,AH.g8,B1.q8]
  ·obtain ⟨t',rfl⟩ : ∃ t',t=t'+1:=⟨t-1,by omega⟩
   rw[BK,F1];have hb:c.e7 (CJ σ j F) j=c.e7 σ key:=by
    obtain ⟨_,_,_,_,g3⟩:=GW g2;obtain ⟨_,_,_,_,_,rfl⟩:=g3 t' rfl;rfl
   rw[hb];exact (UK (λ he=>absurd (h.sat.inj _ _ _ _ _ _ g2 r0 he).2 (by omega)) (h.sat.old _ _ _ g2)).trans (h.sat.e7 _ _ _ g2)
  ·rw[B8 _ h0,aG (Bf _ _ _ g2).1 h0]
   exact (UK (λ he=>h1 (h.sat.inj _ _ _ _ _ _ g2 r0 he).1) (h.sat.old _ _ _ g2)).trans (h.sat.e7 _ _ _ g2)
 ·intro j t c g
  rcases hg j t c g with ⟨rfl,rfl,rfl⟩|⟨rfl,h0,g2⟩|⟨h0,h1,g2⟩
  ·rw[BK,F0]
   simp [AH.l8,B1.new,AH.g8,B1.q8]
  ·obtain ⟨t',rfl⟩ : ∃ t',t=t'+1:=⟨t-1,by omega⟩
   rw[BK,F1];exact Nat.lt_of_lt_of_le (h.sat.old _ _ _ g2) (UM _)
  ·rw[B8 _ h0]
   exact Nat.lt_of_lt_of_le (h.sat.old _ _ _ g2) (UM _)
 ·have hold : ∀ j t c,c4 ((s,(σ key 0).1,.mx (rows++[none]))::q5 key M) j t=some c->(j=s/\t=0) \/ ∃ j0 t0 c0,c4 M j0 t0=some c0/\CJ σ s F j t=σ j0 t0/\((j0=key/\t0=t/\j=s)\/(j0=j/\t0=t/\j≠key)):=by
   intro j t c g;rcases hg j t c g with ⟨rfl,rfl,rfl⟩|⟨rfl,h0,g2⟩|⟨h0,h1,g2⟩
   ·exact Or.inl ⟨rfl,rfl⟩
   ·obtain ⟨t',rfl⟩ : ∃ t',t=t'+1:=⟨t-1,by omega⟩
    exact Or.inr ⟨_,_,_,g2,by rw[BK,F1],Or.inl ⟨rfl,rfl,rfl⟩⟩
   ·exact Or.inr ⟨_,_,_,g2,by rw[B8 _ h0],Or.inr ⟨rfl,rfl,h1⟩⟩
  have nr : ∀ j0 t0 c0,c4 M j0 t0=some c0->CJ σ s F s 0≠σ j0 t0:=by
   intro j0 t0 c0 g he;rw[BK,F0]at he;have:=h.sat.old _ _ _ g
   rw[<-he]at this;exact absurd this (Nat.lt_irrefl _)
  intro j t j' t' c c' g g' hj;rcases hold j t c g with ⟨rfl,rfl⟩|⟨j0,t0,c0,a1,a2,a3⟩<;>rcases hold j' t' c' g' with ⟨rfl,rfl⟩|⟨j1,t1,c1,b1,b2,b3⟩
  ·exact ⟨rfl,rfl⟩
  ·rw[b2]at hj;exact absurd hj (nr _ _ _ b1)
  ·rw[a2]at hj;exact absurd hj.symm (nr _ _ _ a1)
  ·rw[a2,b2]at hj
   obtain ⟨q1,q2⟩:=h.sat.inj _ _ _ _ _ _ a1 b1 hj;rcases a3 with ⟨x1,x2,x3⟩|⟨x1,x2,x3⟩<;>rcases b3 with ⟨y1,y2,y3⟩|⟨y1,y2,y3⟩
   ·exact ⟨x3.trans y3.symm,x2.symm.trans (q2.trans y2)⟩
   ·exact absurd (y1.symm.trans (q1.symm.trans x1)) y3
   ·exact absurd (x1.symm.trans (q1.trans y1)) x3
   ·exact ⟨x1.symm.trans (q1.trans y1),x2.symm.trans (q2.trans y2)⟩
 ·intro j t c g hw
  rcases hg j t c g with ⟨rfl,rfl,rfl⟩|⟨rfl,h0,g2⟩|⟨h0,h1,g2⟩
  ·rw[BK,F0];exact h.sat.low _ _ _ r0 rfl
  ·obtain ⟨t',rfl⟩ : ∃ t',t=t'+1:=⟨t-1,by omega⟩
   rw[BK,F1];exact h.sat.low _ _ _ g2 hw
  ·rw[B8 _ h0];exact h.sat.low _ _ _ g2 hw
theorem fG {k:Nat} {v:AV} (h:NE k v=false):PK k v=false:=by
 cases v with
 | row j t z o n=>simp only[NE]at h;simp only[PK,h,cond_false]
 | ptr j t a b=>simp only[NE]at h;simp only[PK,h,cond_false]
 | _=>rfl
theorem X6 {k:Nat} : ∀ {cs:List AV},HC k cs=false->OI k cs=false
 | [],_=>rfl
 | c::r,h=>by
  simp only[HC]at h;cases h1:NE k c<;>simp only[h1,cond_true,cond_false]at h
  ·simp only[OI,fG h1,cond_false,X6 h]
  ·cases h
theorem oG {k:Nat} : ∀ {es:List (List AV)},IJ k es=false->V4 k es=false
 | [],_=>rfl
 | c::r,h=>by
  simp only[IJ]at h;cases h1:HC k c<;>simp only[h1,cond_true,cond_false]at h
  ·simp only[V4,X6 h1,cond_false,oG h]
  ·cases h
theorem X5 {k:Nat} {v:AV} (h:P4 k v=false):SN k v=false:=by
 cases v with
 | agg cs=>exact X6 h
 | fn p f g cs=>exact X6 h
 | row a b c d e=>exact fG (v := .row a b c d e) h
 | ptr a b c d=>exact fG (v := .ptr a b c d) h
 | _=>rfl
theorem oF {k:Nat} : ∀ {cs:List AV},XB k cs=false->V3 k cs=false
 | [],_=>rfl
 | c::r,h=>by
  simp only[XB]at h;cases h1:P4 k c<;>simp only[h1,cond_true,cond_false]at h
  ·simp only[V3,X5 h1,cond_false,oF h]
  ·cases h
theorem Sr {k:Nat} {v:AV} (h:NF k v=false):QH k v=false:=by
 cases v with
 | l6 cs=>exact oF h
 | agg cs=>exact X5 (v := .agg cs) h
 | fn p f g cs=>exact X5 (v := .fn p f g cs) h
 | row a b c d e=>exact X5 (v := .row a b c d e) h
 | ptr a b c d=>exact X5 (v := .ptr a b c d) h
 | _=>rfl
theorem oP {k:Nat} : ∀ {tm:Tm},HD k tm=false->IU k tm=false
 | [],_=>rfl
 | (i,v)::r,h=>by
  simp only[HD]at h;cases h1:NF k v<;>simp only[h1,cond_true,cond_false]at h
  ·simp only[IU,Sr h1,cond_false,oP h]
  ·cases h
theorem oK {k:Nat} : ∀ {M:Mem},F9 k M=false->HL k M=false
 | [],_=>rfl
 | (i,s,c)::r,h=>by
  simp only[F9]at h;cases h0:Nat.beq k i<;>simp only[h0,cond_true,cond_false]at h
  ·cases h1:GK k c<;>simp only[h1,cond_true,cond_false]at h
   ·have:OH k c=false:=by
     cases c with
     | bx cs=>exact X6 h1
     | bs z es=>exact oG h1
     | _=>rfl
    simp only[HL,this,cond_false,oK h]
   ·cases h
  ·cases h
theorem RX.hid {M1 M2:Mem} (hm : ∀ k,c8 M1 k=c8 M2 k) (h:RX σ tm M1 st):RX σ tm M2 st:=by
 have hr : ∀ k t,c4 M1 k t=c4 M2 k t:=λ k t=>by simp only[c4,hm]
 refine ⟨h.tm,⟨λ k s c e => ?_,λ k t c e => ?_,λ k t c e => ?_,λ k t k' t' c c' e e' => ?_,λ k t c e hw => ?_⟩⟩
 ·rw[<-hm]at e;exact h.sat.site _ _ _ e
 ·rw[<-hr]at e;exact h.sat.e7 _ _ _ e
 ·rw[<-hr]at e;exact h.sat.old _ _ _ e
 ·rw[<-hr]at e e';exact h.sat.inj _ _ _ _ _ _ e e'
 ·rw[<-hr]at e;exact h.sat.low _ _ _ e hw
theorem RX.Mf (h:RX σ tm M st) {s q k2 s2 z:Nat} {es:List (List AV)} (e2:c8 M k2=some (s2,.rw z es)) (hk:s≠k2) (hm:F9 s M=false) (ht:HD s tm=false) (hq:ES q=true) :
  ∃ σ',σ' s 0=(q,st.own.g8 q)/\RX σ' tm ((s,q,.mx [some (z,es)])::q5 k2 M) ⟨st.tm,st.own.put q ((st.own q).new ⟨1,[[.row (σ k2 0).1 (σ k2 0).2 z 0 es.length]]⟩)⟩:=by
 have kj:A3.flat (.mx [none]):=by
  intro i x hx;cases i with
  | zero=>simp at hx
  | succ i=>simp at hx
 have h1:=h.gk (s:=s) (q:=q) hm ht (.mx [none]) kj rfl (λ_=>hq);have tf:c8 ((s,q,.mx [none])::M) k2=some (s2,.rw z es):=by
  simp only[c8,E5.2 (λ e=>hk e.symm),cond_false];exact e2
 have nc:HL s ((s,q,.mx [none])::M)=false:=by simp only[HL,OH,cond_false,oK hm]
 have h2:=h1.Br (k:=s) (s:=q) (k2:=k2) (i:=0) (rows:=[none]) (c0 := .mx [none]) (by simp [c8]) (Or.inl rfl) tf hk (oP ht) nc (by simp);refine ⟨CJ σ s (λ t=>if t=0+1 then σ k2 0 else (q,st.own.g8 q)),?_,?_⟩
 ·rw[BK];simp
 ·have hσ:(CJ (CJ σ s λ_=>(q,st.own.g8 q)) s λ t=>if t=0+1 then (CJ σ s λ_=>(q,st.own.g8 q)) k2 0 else (CJ σ s λ_=>(q,st.own.g8 q)) s t)=CJ σ s (λ t=>if t=0+1 then σ k2 0 else (q,st.own.g8 q)):=by
   funext j t
   by_cases hj:j=s
   ·subst hj;rw[BK,BK];simp only[BK,B8 _ (λ e=>hk e.symm)]
   ·rw[B8 _ hj,B8 _ hj,B8 _ hj]
  rw[hσ]at h2;have hM:q5 k2 ((s,q,A3.mx [none])::M)=(s,q,.mx [none])::q5 k2 M:=by
   simp only[q5,E5.2 (λ e=>hk e.symm),cond_false]
  rw[hM]at h2;have ho : ∀ b b':DM,(st.own.put q ((st.own q).new b)).put q (((st.own.put q ((st.own q).new b)) q).q8 (st.own.g8 q) (some b'))=st.own.put q ((st.own q).new b'):=by
   intro b b';rw[AH.mc,AH.l8];congr 1;simp only[B1.q8,B1.new,AH.g8,B1.mk.injEq,true_and];funext t'
   by_cases oe:t'=(st.own q).g8<;>simp [oe]
  have hn:(CJ σ s λ_=>(q,st.own.g8 q)) s 0=(q,st.own.g8 q):=by rw[BK]
  have jd:(CJ σ s λ_=>(q,st.own.g8 q)) k2=σ k2:=B8 _ (λ e=>hk e.symm);simp only[hn,jd]at h2;rw[ho]at h2;refine RX.hid (λ k => ?_) h2;simp only[c8];cases Nat.beq k s<;>rfl
theorem RX.Hx (h:RX σ tm M st) {s key k2 ky s' s2 z:Nat} {rows:List (Option (Nat × List (List AV)))} {es:List (List AV)} (e:c8 M key=some (s',.mx rows)) (e2:c8 M k2=some (s2,.rw z es)) (hk:key≠k2) (hm:F9 s M=false) (ht:HD s tm=false) :
  RX (CJ σ s λ t=>match t with|0=>(s',st.own.g8 s')|i+1=>if i=rows.length then σ k2 0 else σ key (i+1)) tm ((s,s',.mx (rows++[some (z,es)]))::q5 key (q5 k2 (q5 ky M)))
   ⟨st.tm,st.own.put s' (((st.own s').q8 (σ key 0).2 none).new ⟨1,BU σ key 0 rows++[[.row (σ k2 0).1 (σ k2 0).2 z 0 es.length]]⟩)⟩:=by
 have hs:=h.sat.site _ _ _ e;subst hs;have r0:=DD e;have r2:=DD e2;generalize hF:(λ t=>match t with|0=>((σ key 0).1,st.own.g8 (σ key 0).1)|i+1=>if i=rows.length then σ k2 0 else σ key (i+1):Nat->Nat × Nat)=F;have F0:F 0=((σ key 0).1,st.own.g8 (σ key 0).1):=by rw[<-hF]
 have F1 : ∀ i,F (i+1)=if i=rows.length then σ k2 0 else σ key (i+1):=by intro i;rw[<-hF]
 have jy:BU (CJ σ s F) s 0 (rows++[some (z,es)])=BU σ key 0 rows++[[.row (σ k2 0).1 (σ k2 0).2 z 0 es.length]]:=by
  apply List.ext_getElem?;intro j;rw[ET,BK];rcases Nat.lt_trichotomy j rows.length with hj|hj|hj
  ·rw[List.getElem?_append_left hj,List.getElem?_append_left (by rw[EU];exact hj),ET]
   congr 1;funext r
   cases r with
   | none=>rfl
   | some x=>simp only[Nat.zero_add];rw[F1,if_neg (by omega)]
  ·subst hj
   rw[List.getElem?_append_right (Nat.le_refl _),List.getElem?_append_right (by rw[EU];exact Nat.le_refl _),EU];simp [F1]
  ·rw[List.getElem?_eq_none (by simp;omega),List.getElem?_eq_none (by simp [EU];omega)];rfl
 have Bf : ∀ j t c',c4 M j t=some c'->GK s c'=false/\j≠s:=by
  intro j t c' g;obtain ⟨s1,c0,g1,g2,g3⟩:=GW g;obtain ⟨g4,g5⟩:=OW hm _ _ _ g1;refine ⟨?_,g4⟩;cases t with
  | zero=>rw[g2 rfl];exact g5
  | succ i=>obtain ⟨rows,z,es,_,_,rfl⟩:=g3 i rfl;rfl
 have hg : ∀ j t c,c4 ((s,(σ key 0).1,.mx (rows++[some (z,es)]))::q5 key (q5 k2 (q5 ky M))) j t=some c ->
   (j=s/\t=0/\c = .mx (rows++[some (z,es)]))\/(j=s/\t=rows.length+1/\c = .rw z es)\/(j=s/\t≠0/\t≠rows.length+1/\c4 M key t=some c)\/(j≠s/\j≠key/\j≠k2/\c4 M j t=some c):=by
  intro j t c g;by_cases hj:j=s
  ·subst hj
   cases t with
   | zero=>rw[QU]at g;exact Or.inl ⟨rfl,rfl,(Option.some.inj g).symm⟩
   | succ t =>
    simp only[c4,c8,Nat.beq_refl,cond_true]at g;rcases Nat.lt_trichotomy t rows.length with oe|oe|oe
    ·rw[List.getElem?_append_left oe]at g
     refine Or.inr (Or.inr (Or.inl ⟨rfl,by omega,by omega,?_⟩));simp only[c4,e];exact g
    ·subst oe
     rw[List.getElem?_append_right (Nat.le_refl _),Nat.sub_self]at g;exact Or.inr (Or.inl ⟨rfl,rfl,(Option.some.inj g).symm⟩)
    ·rw[List.getElem?_eq_none (by simp;omega)]at g;cases g
  ·rw[JZ hj]at g
   obtain ⟨g1,g2⟩:=K6 g;obtain ⟨g3,g4⟩:=K6 g2;obtain ⟨_,g5⟩:=K6 g4;exact Or.inr (Or.inr (Or.inr ⟨hj,g1,g3,g5⟩))
 refine ⟨λ j => ?_,⟨?_,?_,?_,?_,?_⟩⟩
 ·rw[dL (XC ht j)];exact h.tm j
 ·intro j s1 c g
  simp only[c8]at g;cases hb:Nat.beq j s<;>simp only[hb,cond_true,cond_false]at g
  ·rw[B8 _ (E5.1 hb)];exact h.sat.site _ _ _ (OT (OT (OT g).2).2).2
  ·simp only[Option.some.injEq,Prod.mk.injEq]at g
   rw[BI.1 hb,BK,F0,<-g.1]
 ·intro j t c g
  rcases hg j t c g with ⟨rfl,rfl,rfl⟩|⟨rfl,rfl,rfl⟩|⟨rfl,h0,h1,g2⟩|⟨h0,h1,h2,g2⟩
  ·rw[BK,F0]
   simp only[A3.e7,jy];simp [AH.l8,B1.new,AH.g8,B1.q8]
  ·rw[BK,F1,if_pos rfl]
   exact (UK (λ he=>hk (h.sat.inj _ _ _ _ _ _ r2 r0 he).1.symm) (h.sat.old _ _ _ r2)).trans (h.sat.e7 _ _ _ r2)
  ·obtain ⟨t',rfl⟩ : ∃ t',t=t'+1:=⟨t-1,by omega⟩
   rw[BK,F1,if_neg (by omega)];have hb:c.e7 (CJ σ j F) j=c.e7 σ key:=by
    obtain ⟨_,_,_,_,g3⟩:=GW g2;obtain ⟨_,_,_,_,_,rfl⟩:=g3 t' rfl;rfl
   rw[hb];exact (UK (λ he=>absurd (h.sat.inj _ _ _ _ _ _ g2 r0 he).2 (by omega)) (h.sat.old _ _ _ g2)).trans (h.sat.e7 _ _ _ g2)
  ·rw[B8 _ h0,aG (Bf _ _ _ g2).1 h0]
   exact (UK (λ he=>h1 (h.sat.inj _ _ _ _ _ _ g2 r0 he).1) (h.sat.old _ _ _ g2)).trans (h.sat.e7 _ _ _ g2)
 ·intro j t c g
  rcases hg j t c g with ⟨rfl,rfl,rfl⟩|⟨rfl,rfl,rfl⟩|⟨rfl,h0,h1,g2⟩|⟨h0,h1,h2,g2⟩
  ·rw[BK,F0]
   simp [AH.l8,B1.new,AH.g8,B1.q8]
  ·rw[BK,F1,if_pos rfl]
   exact Nat.lt_of_lt_of_le (h.sat.old _ _ _ r2) (UM _)
  ·obtain ⟨t',rfl⟩ : ∃ t',t=t'+1:=⟨t-1,by omega⟩
   rw[BK,F1,if_neg (by omega)];exact Nat.lt_of_lt_of_le (h.sat.old _ _ _ g2) (UM _)
  ·rw[B8 _ h0]
   exact Nat.lt_of_lt_of_le (h.sat.old _ _ _ g2) (UM _)
 ·have hold : ∀ j t c,c4 ((s,(σ key 0).1,.mx (rows++[some (z,es)]))::q5 key (q5 k2 (q5 ky M))) j t=some c->(j=s/\t=0) \/ ∃ j0 t0 c0,c4 M j0 t0=some c0/\CJ σ s F j t=σ j0 t0/\((j0=k2/\t0=0/\j=s/\t=rows.length+1)\/(j0=key/\t0=t/\j=s)\/(j0=j/\t0=t/\j≠key/\j≠k2)):=by
   intro j t c g;rcases hg j t c g with ⟨rfl,rfl,rfl⟩|⟨rfl,rfl,rfl⟩|⟨rfl,h0,h1,g2⟩|⟨h0,h1,h2,g2⟩
   ·exact Or.inl ⟨rfl,rfl⟩
   ·exact Or.inr ⟨_,_,_,r2,by rw[BK,F1,if_pos rfl],Or.inl ⟨rfl,rfl,rfl,rfl⟩⟩
   ·obtain ⟨t',rfl⟩ : ∃ t',t=t'+1:=⟨t-1,by omega⟩
    exact Or.inr ⟨_,_,_,g2,by rw[BK,F1,if_neg (by omega)],Or.inr (Or.inl ⟨rfl,rfl,rfl⟩)⟩
   ·exact Or.inr ⟨_,_,_,g2,by rw[B8 _ h0],Or.inr (Or.inr ⟨rfl,rfl,h1,h2⟩)⟩
  have nr : ∀ j0 t0 c0,c4 M j0 t0=some c0->CJ σ s F s 0≠σ j0 t0:=by
   intro j0 t0 c0 g he;rw[BK,F0]at he;have:=h.sat.old _ _ _ g
   rw[<-he]at this;exact absurd this (Nat.lt_irrefl _)
  intro j t j' t' c c' g g' hj;rcases hold j t c g with ⟨rfl,rfl⟩|⟨j0,t0,c0,a1,a2,a3⟩<;>rcases hold j' t' c' g' with ⟨rfl,rfl⟩|⟨j1,t1,c1,b1,b2,b3⟩
  ·exact ⟨rfl,rfl⟩
  ·rw[b2]at hj;exact absurd hj (nr _ _ _ b1)
  ·rw[a2]at hj;exact absurd hj.symm (nr _ _ _ a1)
  ·rw[a2,b2]at hj
   obtain ⟨q1,q2⟩:=h.sat.inj _ _ _ _ _ _ a1 b1 hj;rcases a3 with ⟨x1,x2,x3,x4⟩|⟨x1,x2,x3⟩|⟨x1,x2,x3,x4⟩<;>rcases b3 with ⟨y1,y2,y3,y4⟩|⟨y1,y2,y3⟩|⟨y1,y2,y3,y4⟩
   ·exact ⟨x3.trans y3.symm,x4.trans y4.symm⟩
   ·exact absurd (y1.symm.trans (q1.symm.trans x1)) hk
   ·exact absurd (y1.symm.trans (q1.symm.trans x1)) y4
   ·exact absurd (x1.symm.trans (q1.trans y1)) hk
   ·exact ⟨x3.trans y3.symm,x2.symm.trans (q2.trans y2)⟩
   ·exact absurd (y1.symm.trans (q1.symm.trans x1)) y3
   ·exact absurd (x1.symm.trans (q1.trans y1)) x4
   ·exact absurd (x1.symm.trans (q1.trans y1)) x3
   ·exact ⟨x1.symm.trans (q1.trans y1),x2.symm.trans (q2.trans y2)⟩
 ·intro j t c g hw
  rcases hg j t c g with ⟨rfl,rfl,rfl⟩|⟨rfl,rfl,rfl⟩|⟨rfl,h0,h1,g2⟩|⟨h0,h1,h2,g2⟩
  ·rw[BK,F0];exact h.sat.low _ _ _ r0 rfl
  ·rw[BK,F1,if_pos rfl];exact h.sat.low _ _ _ r2 rfl
  ·obtain ⟨t',rfl⟩ : ∃ t',t=t'+1:=⟨t-1,by omega⟩
   rw[BK,F1,if_neg (by omega)];exact h.sat.low _ _ _ g2 hw
  ·rw[B8 _ h0];exact h.sat.low _ _ _ g2 hw
theorem G0 (k:IntKind) (n:Int):BC σ (.int k n) = .int k n:=rfl
theorem GL (b:Bool):BC σ (.bool b) = .bool b:=rfl
theorem HE (l:Bool) (es:List (List AV)):BC σ (.sl l es) = .sl l es:=rfl
theorem CZ (k t z o n:Nat):BC σ (.row k t z o n) = .row (σ k t).1 (σ k t).2 z o n:=rfl
theorem D5 (k t i j:Nat):BC σ (.ptr k t i j) = .ptr (σ k t).1 (σ k t).2 i j:=rfl
theorem IL (cs:List AV):BC σ (.u6 cs) = .u6 cs:=rfl
theorem FF:BC σ .nil = .nil:=rfl
theorem H2 (cs:List AV):BC σ (.agg cs) = .agg (cs.map (A4 σ)):=rfl
theorem AhJ (v:Value):BC σ (.da v) = .da v:=rfl
theorem dB (p:Bool) (f g:Nat) (cs:List AV):BC σ (.fn p f g cs) = .fn p f g (cs.map (A4 σ)):=rfl
theorem H3 (cs:List AV):BC σ (.l6 cs) = .l6 (cs.map (BJ σ)):=rfl
def B3.res (own:AH):B3->AV × AH
 | .val v=>(v,own)
 | .new s b f=>(f (own.g8 s),own.put s ((own s).new b))
 | .yl s b f=>(f (own.g8 s),own.put s ((own s).new b))
 | .ea v o=>(v,o)
 | .q8 s x=>(.l6 [],own.put s x)
 | .wm s x v=>(v,own.put s x)
theorem eR (st:St) (d:Option Nat) (E:B3):st.app d E=⟨(st.dst d (E.res st.own).1).tm,(E.res st.own).2⟩:=by
 cases E<;>cases d<;>rfl
def BP (L:Lib) (tm:Tm) (c7:List Nat) (K:AV->Mem->Prop) (op:DG) (st:St):Prop :=
 ∃ E σ' v M',(∀ c,g6 (CH L c) c7 st.ev st.own op=some E)/\K v M'/\(E.res st.own).1=BC σ' v/\RX σ' tm M' ⟨st.tm,(E.res st.own).2⟩
theorem BP.val {L:Lib} {c7:List Nat} {K:AV->Mem->Prop} {op:DG} (h:RX σ tm M st) (v:AV) (he : ∀ c,g6 (CH L c) c7 st.ev st.own op=some (.val (BC σ v))) (hk:K v M):BP L tm c7 K op st :=
 ⟨_,σ,v,M,he,hk,rfl,h⟩
variable {L:Lib} {c7:List Nat} {K:AV->Mem->Prop}
theorem Tb {x:AR} (hr:RX σ tm M st) (h:XE L tm M c7 K (.a9 x)):BP L tm c7 K (.a9 x) st:=by
 simp only[XE]at h;obtain ⟨h1,h2⟩:=bI h;exact BP.val hr _ (λ C=>by simp only[g6,hr.ev rfl h1]) h2
theorem Ti {s z:Nat} (hr:RX σ tm M st) (h:XE L tm M c7 K (.w9 s z)):BP L tm c7 K (.w9 s z) st:=by
 simp only[XE]at h;cases ib:ES s<;>simp only[ib,cond_true,cond_false]at h;obtain ⟨k,h1,h2,h3⟩:=G5 h;refine ⟨_,_,_,_,λ C=>rfl,h3,?_,hr.gk h1 h2 (.rw z []) trivial rfl (λ_=>ib)⟩;simp only[B3.res,CZ,D5,BK]
theorem Tc {c a b:AR} (hr:RX σ tm M st) (h:XE L tm M c7 K (.pick c a b)):BP L tm c7 K (.pick c a b) st:=by
 simp only[XE]at h;split at h
 ·rename_i e
  obtain ⟨h1,h2⟩:=bI h;exact BP.val hr _ (λ C=>by simp only[g6,hr.ev e (by intro e;cases e),hr.ev rfl h1,G0,GL,HE,CZ,D5,IL,FF,H2,H3]) h2
 ·rename_i e
  obtain ⟨h1,h2⟩:=bI h;exact BP.val hr _ (λ C=>by simp only[g6,hr.ev e (by intro e;cases e),hr.ev rfl h1,G0,GL,HE,CZ,D5,IL,FF,H2,H3]) h2
 ·exact h.elim
theorem Afn {op:BinOp} {k k':IntKind} {a b:Int} {v:AV} (h:C3 op k a k' b=some v):BC σ v=v:=by
 cases op<;>simp only[C3]at h<;>split at h<;>first|(obtain rfl:=Option.some.inj h;rfl)|cases h
theorem AfU {k k':IntKind} (h:kq k k'=true):k=k':=by simpa [kq] using h
theorem Tx {op:BinOp} {k k':IntKind} {a b:Int} {K:AV->Prop} (h:eU op k a k' b K) : ∃ v,C3 op k a k' b=some v/\K v:=by
 have key : ∀ (p q:Prop) [Decidable p] (A B:Prop) (c:Bool),(¬ p->q)->AF p q A B->(p/\A)\/(¬ p/\B):=by
  intro p q _ A B _ hq hc;by_cases hp:p
  ·exact Or.inl ⟨hp,hc.1 hp⟩
  ·exact Or.inr ⟨hp,hc.2 (hq hp)⟩
 cases op;all_goals try (exact h)
 all_goals (
  simp only[eU]at h;cases hk:kq k k'<;>simp only[hk,cond_true,cond_false]at h;obtain rfl:=AfU hk;simp only[C3,if_true])
 ·rcases key (a=b) _ _ _ true (λ e=>e) h with ⟨h1,h2⟩|⟨h1,h2⟩
  ·exact ⟨_,rfl,by rw[show (a == b)=true by simpa using h1];exact h2⟩
  ·exact ⟨_,rfl,by rw[show (a == b)=false by simpa using h1];exact h2⟩
 ·rcases key (a≠b) _ _ _ true (λ e=>by omega) h with ⟨h1,h2⟩|⟨h1,h2⟩
  ·exact ⟨_,rfl,by rw[show (a != b)=true by simpa using h1];exact h2⟩
  ·exact ⟨_,rfl,by rw[show (a != b)=false by simpa using h1];exact h2⟩
 ·rcases key (a<b) _ _ _ true (λ e=>by omega) h with ⟨h1,h2⟩|⟨h1,h2⟩
  ·exact ⟨_,rfl,by simpa [h1] using h2⟩
  ·exact ⟨_,rfl,by simpa [h1] using h2⟩
 ·rcases key (a<=b) _ _ _ true (λ e=>by omega) h with ⟨h1,h2⟩|⟨h1,h2⟩
  ·exact ⟨_,rfl,by simpa [h1] using h2⟩
  ·exact ⟨_,rfl,by simpa [h1] using h2⟩
 ·rcases key (b<a) _ _ _ true (λ e=>by omega) h with ⟨h1,h2⟩|⟨h1,h2⟩
  ·exact ⟨_,rfl,by simpa [h1] using h2⟩
  ·exact ⟨_,rfl,by simpa [h1] using h2⟩
 ·rcases key (b<=a) _ _ _ true (λ e=>by omega) h with ⟨h1,h2⟩|⟨h1,h2⟩
  ·exact ⟨_,rfl,by simpa [h1] using h2⟩
  ·exact ⟨_,rfl,by simpa [h1] using h2⟩
theorem Uo {op:BinOp} {x y:AR} (hr:RX σ tm M st) (h:XE L tm M c7 K (.bin op x y)):BP L tm c7 K (.bin op x y) st:=by
 simp only[XE]at h;split at h
 ·rename_i k a k' b e1 e2
  obtain ⟨v,hv,hk⟩:=Tx h;exact BP.val hr v (λ C=>by
   simp only[g6,hr.ev e1 (by intro e;cases e),hr.ev e2 (by intro e;cases e),G0,GL,HE,CZ,D5,IL,FF,H2,H3,hv,Option.map_some];exact congrArg some (congrArg B3.val (Afn (σ:=σ) hv).symm)) hk
 ·exact h.elim
theorem Un {ne:Bool} {x y:AR} (hr:RX σ tm M st) (h:XE L tm M c7 K (.beq ne x y)):BP L tm c7 K (.beq ne x y) st:=by
 simp only[XE]at h;split at h
 ·rename_i a b e1 e2
  rw[QN]at h;exact BP.val hr _ (λ C=>by
   simp only[g6,hr.ev e1 (by intro e;cases e),hr.ev e2 (by intro e;cases e),G0,GL,HE,CZ,D5,IL,FF,H2,H3];cases ne<;>rfl) h
 ·exact h.elim
theorem Tg {op:UnOp} {x:AR} (hr:RX σ tm M st) (h:XE L tm M c7 K (.un op x)):BP L tm c7 K (.un op x) st:=by
 simp only[XE]at h;split at h
 ·rename_i k n e1
  obtain ⟨v,hv,hk⟩:=h;refine BP.val hr v (λ C => ?_) hk;simp only[g6,hr.ev e1 (by intro e;cases e),G0,GL,HE,CZ,D5,IL,FF,H2,H3,hv,Option.map_some];cases op<;>simp only[RE,Option.some.injEq,reduceCtorEq]at hv<;>subst hv<;>rfl
 ·rename_i b e1
  split at h
  ·rw[QN]at h
   exact BP.val hr _ (λ C=>by simp only[g6,hr.ev e1 (by intro e;cases e),G0,GL,HE,CZ,D5,IL,FF,H2,H3,RE,Option.map_some]) h
  ·exact h.elim
 ·exact h.elim
theorem Us {k:IntKind} {x:AR} (hr:RX σ tm M st) (h:XE L tm M c7 K (.conv k x)):BP L tm c7 K (.conv k x) st:=by
 simp only[XE]at h;split at h
 ·rename_i k' n e1
  exact BP.val hr _ (λ C=>by simp only[g6,hr.ev e1 (by intro e;cases e),G0,GL,HE,CZ,D5,IL,FF,H2,H3]) h.h
 ·exact h.elim
theorem Up {s:Nat} {x:AR} (hr:RX σ tm M st) (h:XE L tm M c7 K (.box s x)):BP L tm c7 K (.box s x) st:=by
 simp only[XE]at h;obtain ⟨h0,cs,hc,h⟩:=bH h;obtain ⟨k,h1,h2,h3⟩:=G5 h;refine ⟨.new s (A3.e7 σ k (.bx cs)) (λ t => .ptr s t 0 0),_,_,_,λ C => ?_,h3,?_,hr.gk h1 h2 (.bx cs) trivial (xB (sO h2 x) hc) (λ h=>nomatch h)⟩
 ·simp only[g6,hr.ev rfl h0,OG hc,List.length_map,A3.e7]
 ·simp only[B3.res,CZ,D5,BK]
theorem Uj {s:Nat} {z:List AV} (hr:RX σ tm M st) (h:XE L tm M c7 K (.alloc s z)):BP L tm c7 K (.alloc s z) st:=by
 simp only[XE]at h;cases hd:DR z<;>simp only[hd,cond_true,cond_false]at h;obtain ⟨k,h1,h2,h3⟩:=G5 h;refine ⟨.new s (A3.e7 σ k (.bx z)) (λ t => .ptr s t 0 0),_,_,_,λ C => ?_,h3,?_,hr.gk h1 h2 (.bx z) trivial (gA hd) (λ h=>nomatch h)⟩
 ·simp only[g6,A3.e7,IB hd]
 ·simp only[B3.res,CZ,D5,BK]
theorem cO {cs ds:List AV} {off n:Nat} (h:part cs off n=some ds):part (cs.map (A4 σ)) off n=some (ds.map (A4 σ)):=by
 simp only[part]at h ⊢;split at h
 ·rename_i hl
  rw[if_pos (by simpa using hl)];obtain rfl:=Option.some.inj h;rw[List.map_take,List.map_drop]
 ·cases h
theorem sQ {v:AV} {K:AV->Prop} (h:fF v K):v ≠ .any/\BC σ v=A4 σ v/\K v:=by
 cases v<;>simp only[fF]at h<;>first|exact h.elim|exact ⟨(by intro e;cases e),rfl,h⟩
theorem Q0 (σ:FC) {agg:Bool} {ds:List AV} {K:AV->Prop} (h:qy agg ds K) : ∃ v,J2 agg (ds.map (A4 σ))=some (BC σ v)/\K v:=by
 cases agg
 ·simp only[qy]at h
  split at h
  ·rename_i c
   obtain ⟨_,h1,h2⟩:=sQ (σ:=σ) h;exact ⟨c,by rw[h1];rfl,h2⟩
  ·exact h.elim
 ·exact ⟨.agg ds,rfl,h⟩
theorem yA {cs vs:List AV} {j:Nat}:(splice cs j vs).map (A4 σ)=splice (cs.map (A4 σ)) j (vs.map (A4 σ)):=by
 simp only[splice,List.map_append,List.map_take,List.map_drop,List.length_map]
theorem sW (hr:RX σ tm M st) : ∀ {ps:List (Nat × Nat × AR)} {cells:List AV} {K:List AV->Prop},iN tm ps cells K -> ∃ cs,fill (cells.map (A4 σ)) (ps.map λ p=>(p.1,p.2.1,st.ev p.2.2))=some (cs.map (A4 σ))/\K cs
 | [],cells,K,h=>⟨cells,rfl,h⟩
 | p::r,cells,K,h=>by
  obtain ⟨h0,vs,hc,h⟩:=bH (show fC (ex tm p.2.2) λ vs=>bif Nat.beq vs.length p.2.1 then bif Nat.ble (p.1+p.2.1) cells.length then fL (splice cells p.1 vs) λ cells=>iN tm r cells K else False else False from h);cases hz:Nat.beq vs.length p.2.1<;>simp only[hz,cond_true,cond_false]at h;have hl:Nat.ble (p.1+p.2.1) cells.length=true:=by
   cases hl:Nat.ble (p.1+p.2.1) cells.length
   ·rw[hl]at h;exact h.elim
   ·rfl
  rw[hl]at h;simp only[cond_true,GT]at h;obtain ⟨cs,h1,h2⟩:=sW hr h;refine ⟨cs,?_,h2⟩;simp only[List.map_cons,fill,hr.ev rfl h0,OG hc,List.length_map];rw[if_pos ⟨BI.1 hz,Nat.le_of_ble_eq_true hl⟩,<-yA];exact h1
theorem Ur {z:List AV} {ps:List (Nat × Nat × AR)} (hr:RX σ tm M st) (h:XE L tm M c7 K (.build z ps)):BP L tm c7 K (.build z ps) st:=by
 simp only[XE]at h;cases hd:DR z<;>simp only[hd,cond_true,cond_false]at h;obtain ⟨cs,h1,h2⟩:=sW hr h;refine BP.val hr (.agg cs) (λ C => ?_) h2;rw[IB hd]at h1;simp only[g6,h1];rfl
theorem sN : ∀ l:List AR,QM tm l=l.map (ex tm)
 | []=>rfl
 | x::r=>by rw[QM,sN r];rfl
theorem pU : ∀ {es:List (List AV)},YD es=true -> ∀ e∈es,DR e=true
 | e0::r,h,e,he=>by
  simp only[YD]at h;cases h1:DR e0<;>simp only[h1,cond_true,cond_false]at h
  ·cases h
  ·rcases List.mem_cons.1 he with rfl|he
   ·exact h1
   ·exact pU h e he
theorem Vp {es:List (List AV)} (h : ∀ e∈es,DR e=true):(es.map λ cs=>cs.map (A4 σ))=es:=by
 conv=>rhs;rw[<-List.map_id es]
 exact List.map_congr_left λ e he=>IB (h e he)
theorem jN {es:List (List AV)} {K:Nat->Prop} (h:YY es K):K es.length:=by
 unfold YY at h;split at h<;>exact h
theorem oC (hr:RX σ tm M st) {z:Nat} : ∀ {l:List AR} {K:List (List AV)->Prop},fD tm z l K -> ∃ es,l.mapM (λ x=>cellsOf (st.ev x))=some (es.map λ cs=>cs.map (A4 σ))/\(∀ e∈es,e.length=z)/\(∀ k,HD k tm=false->IJ k es=false)/\K es
 | [],K,h=>⟨[],rfl,(λ e he=>by cases he),λ_ _=>rfl,h⟩
 | x::r,K,h=>by
  obtain ⟨h0,cs,hc,h⟩:=bH (show fC (ex tm x) λ cs=>bif Nat.beq cs.length z then fD tm z r λ es=>K (cs::es) else False from h);cases hz:Nat.beq cs.length z<;>simp only[hz,cond_true,cond_false]at h;obtain ⟨es,h1,h2,h4,h3⟩:=oC hr h;refine ⟨cs::es,?_,λ e he => ?_,λ k hk => ?_,h3⟩
  ·rw[List.mapM_cons,h1,hr.ev rfl h0,OG hc];rfl
  ·rcases List.mem_cons.1 he with rfl|he
   ·exact BI.1 hz
   ·exact h2 e he
  ·simp only[IJ,xB (sO hk x) hc,cond_false,h4 k hk]
theorem evL (hr:RX σ tm M st) {xs:List AR} (h : ∀ v∈QM tm xs,v ≠ .any):xs.map st.ev=(QM tm xs).map (BC σ):=by
 rw[sN]at h ⊢;rw[List.map_map];exact List.map_congr_left λ x hx=>hr.ev rfl (h _ (List.mem_map_of_mem hx))
theorem Uq {s z:Nat} {ps:List AR} (hr:RX σ tm M st) (h:XE L tm M c7 K (.c9 s z ps)):BP L tm c7 K (.c9 s z ps) st:=by
 simp only[XE]at h;cases ib:ES s<;>simp only[ib,cond_true,cond_false]at h;obtain ⟨es,g1,g2,g3,h⟩:=oC hr h;obtain ⟨k,h1,h2,h3⟩:=G5 (jN h);have key : ∀ c:A3,c.flat->GK k c=false->c.e7 σ k=⟨z,es.map λ cs=>cs.map (A4 σ)⟩->K (.row k 0 z 0 es.length) ((k,s,c)::M)->BP L tm c7 K (.c9 s z ps) st:=by
  intro c hf hc hb hk;refine ⟨.new s (c.e7 σ k) (λ t => .row s t z 0 es.length),_,_,_,λ C => ?_,hk,?_,hr.gk h1 h2 c hf hc (λ_=>ib)⟩
  ·simp only[g6,g1,hb]
   rw[if_pos (λ e he=>by obtain ⟨e',ja,rfl⟩:=List.mem_map.1 he;simpa using g2 e' ja)];simp only[List.length_map]
  ·simp only[B3.res,CZ,BK]
 cases hd:YD es<;>simp only[hd,cond_true,cond_false]at h3
 ·exact key (.bs z es) trivial (g3 k h2) rfl h3
 ·exact key (.rw z es) trivial rfl (by simp only[A3.e7];rw[Vp (pU hd)]) h3
theorem Uu {x:AR} {off:Nat} (hr:RX σ tm M st) (h:XE L tm M c7 K (.a6 x off)):BP L tm c7 K (.a6 x off) st:=by
 simp only[XE]at h;split at h
 ·rename_i key t i j e
  exact BP.val hr _ (λ C=>by simp only[g6,hr.ev e (by intro e;cases e),G0,GL,HE,CZ,D5,IL,FF,H2,H3]) h
 ·rename_i cs e
  rw[GT]at h;exact BP.val hr _ (λ C=>by simp only[g6,hr.ev e (by intro e;cases e),G0,GL,HE,CZ,D5,IL,FF,H2,H3]) h
 ·exact h.elim
theorem Uv {x:AR} {off n:Nat} {agg:Bool} (hr:RX σ tm M st) (h:XE L tm M c7 K (.ox x off n agg)):BP L tm c7 K (.ox x off n agg) st:=by
 simp only[XE]at h;split at h
 ·rename_i cs e
  split at h
  ·rename_i ds hp
   rw[GT]at h;obtain ⟨v,h1,h2⟩:=Q0 σ h;exact BP.val hr v (λ C=>by simp only[g6,hr.ev e (by intro e;cases e),H2,cO hp,h1,Option.map_some]) h2
  ·exact h.elim
 ·exact h.elim
theorem Ux {arr:Option Nat} {z:Nat} {x i:AR} (hr:RX σ tm M st) (h:XE L tm M c7 K (.a5 arr z x i)):BP L tm c7 K (.a5 arr z x i) st:=by
 simp only[XE]at h;split at h
 ·rename_i kd n e1
  split at h
  ·rename_i len key t i' j e2
   obtain ⟨h1,h2⟩:=h;exact BP.val hr _ (λ C=>by simp only[g6,hr.ev e1 (by intro e;cases e),hr.ev e2 (by intro e;cases e),G0,GL,HE,CZ,D5,IL,FF,H2,H3];rw[if_pos h1]) h2
  ·rename_i len cs e2
   obtain ⟨h1,h2⟩:=h;rw[GT]at h2;exact BP.val hr _ (λ C=>by simp only[g6,hr.ev e1 (by intro e;cases e),hr.ev e2 (by intro e;cases e),G0,GL,HE,CZ,D5,IL,FF,H2,H3];rw[if_pos h1]) h2
  ·rename_i key t z' off len e2
   cases hz:Nat.beq z' z<;>simp only[hz,cond_true,cond_false]at h;obtain ⟨h1,h2⟩:=h;exact BP.val hr _ (λ C=>by simp only[g6,hr.ev e1 (by intro e;cases e),hr.ev e2 (by intro e;cases e),G0,GL,HE,CZ,D5,IL,FF,H2,H3];rw[if_pos ⟨h1.1,h1.2,BI.1 hz⟩]) h2
  ·rename_i q es e2
   obtain ⟨h1,cs,h2,h3,h4⟩:=h;exact BP.val hr _ (λ C=>by simp only[g6,hr.ev e1 (by intro e;cases e),hr.ev e2 (by intro e;cases e),G0,GL,HE,CZ,D5,IL,FF,H2,H3,h2];rw[if_pos h1,if_pos h3]) h4
  ·exact h.elim
 ·exact h.elim
theorem W7 {s:Nat} {own:AH} : ∀ {c7:List Nat},Q1 s c7=true->own.o3 c7 s=own s
 | [],_=>rfl
 | b::r,h=>by
  have hm:PW s (b::r)=false:=by simpa [Q1] using h
  have : ∀ l:List Nat,PW s l=false->own.o3 l s=own s:=by
   intro l;induction l with
   | nil=>intro _;rfl
   | cons b r ih =>
    intro h;simp only[PW]at h;cases hb:Nat.beq s b<;>simp only[hb,cond_true,cond_false]at h
    ·simp only[AH.o3]
     rw[if_neg (E5.1 hb)];exact ih h
    ·cases h
  exact this _ hm
theorem kF {s:Nat} {own:AH} (hs:ES s=true) : ∀ {c7:List Nat},U4 c7=true->own.o3 c7 s=own s
 | [],_=>rfl
 | b::r,h=>by
  simp only[U4]at h;cases hb:ES b<;>simp only[hb,cond_true,cond_false]at h
  ·have m8:s≠b:=λ e=>by rw[e,hb]at hs;cases hs
   show (if s=b then _ else own.o3 r s)=own s;rw[if_neg m8];exact kF hs h
  ·cases h
theorem Uz {agg:Bool} {n:Nat} {x:AR} (hr:RX σ tm M st) (h:XE L tm M c7 K (.ld agg n x)):BP L tm c7 K (.ld agg n x) st:=by
 simp only[XE]at h;split at h
 ·rename_i key t i j e
  split at h
  ·rename_i s c hm
   have hs:=hr.sat.site _ _ _ hm;split at h
   ·cases hb:Q1 s c7<;>simp only[hb,cond_true,cond_false]at h
    have ay:=hr.sat.e7 _ _ _ (DD hm);rw[hs]at ay;split at h
    ·rename_i cs
     cases hi:Nat.beq i 0<;>simp only[hi,cond_true,cond_false]at h;obtain rfl:=BI.1 hi;split at h
     ·rename_i ds hp
      rw[GT]at h;obtain ⟨v,h1,h2⟩:=Q0 σ h;exact BP.val hr v (λ C=>by
       simp only[g6,hr.ev e (by intro e;cases e),D5,AH.px,AH.get,hs];rw[W7 hb,ay];simp only[A3.e7,List.getElem?_cons_zero,cO hp,h1,Option.map_some]) h2
     ·exact h.elim
    ·rename_i z es
     obtain ⟨cs,ds,g1,g2,h⟩:=h;rw[GT]at h;cases hd:DR ds<;>simp only[hd,cond_true,cond_false]at h;obtain ⟨v,h1,h2⟩:=Q0 σ h;rw[IB hd]at h1;exact BP.val hr v (λ C=>by
      simp only[g6,hr.ev e (by intro e;cases e),D5,AH.px,AH.get,hs];rw[W7 hb,ay];simp only[A3.e7,g1,g2,h1,Option.map_some]) h2
    ·rename_i z es
     split at h
     ·rename_i cs g1
      split at h
      ·rename_i ds hp
       rw[GT]at h;obtain ⟨v,h1,h2⟩:=Q0 σ h;exact BP.val hr v (λ C=>by
        simp only[g6,hr.ev e (by intro e;cases e),D5,AH.px,AH.get,hs];rw[W7 hb,ay];simp only[A3.e7,List.getElem?_map,g1,Option.map_some,cO hp,h1]) h2
      ·exact h.elim
     ·exact h.elim
    ·rename_i rows
     cases hj:Nat.beq j 0<;>simp only[hj,cond_true,cond_false]at h;cases hn:Nat.beq n 1<;>simp only[hn,cond_true,cond_false]at h;obtain rfl:=BI.1 hj;obtain rfl:=BI.1 hn;obtain ⟨r,g1,h⟩:=h;have fin : ∀ c:AV,(BU σ key 0 rows)[i]? = some [A4 σ c]->qy agg [c] (λ v=>K v M)->BP L tm c7 K (.ld agg 1 x) st:=by
      intro c hc h;obtain ⟨v,h1,h2⟩:=Q0 σ h;have hp:part [A4 σ c] 0 1=some [A4 σ c]:=by simp [part]
      exact BP.val hr v (λ C=>by
       simp only[g6,hr.ev e (by intro e;cases e),D5,AH.px,AH.get,hs];rw[W7 hb,ay];simp only[A3.e7,hc,hp];simp only[List.map_cons,List.map_nil]at h1;simp only[h1,Option.map_some]) h2
     split at h
     ·rename_i z es
      exact fin _ (by rw[ET,g1];simp [A4]) h
     ·exact fin _ (by rw[ET,g1];simp [A4]) h
    ·exact h.elim
    ·exact h.elim
   ·rename_i i'
    split at h
    ·rename_i rows
     obtain ⟨z,es,g0,cs,ds,g1,g2,h⟩:=h;rw[GT]at h;cases hd:DR ds<;>simp only[hd,cond_true,cond_false]at h;obtain ⟨v,h1,h2⟩:=Q0 σ h;rw[IB hd]at h1;have ay:=hr.sat.e7 key (i'+1) (.rw z es) (by simp [c4,hm,g0]);exact BP.val hr v (λ C=>by
      simp only[g6,hr.ev e (by intro e;cases e),D5,AH.px,AH.get,AH.o3];rw[ay];simp only[A3.e7,g1,g2,h1,Option.map_some]) h2
    ·rename_i rows b r
     cases hb:U4 (b::r)<;>simp only[hb,cond_true,cond_false]at h;obtain ⟨z,es,g0,cs,ds,g1,g2,h⟩:=h;rw[GT]at h;cases hd:DR ds<;>simp only[hd,cond_true,cond_false]at h;obtain ⟨v,h1,h2⟩:=Q0 σ h;rw[IB hd]at h1;have g':c4 M key (i'+1)=some (.rw z es):=by simp [c4,hm,g0]
     have ay:=hr.sat.e7 key (i'+1) (.rw z es) g';have ib:=hr.sat.low key (i'+1) _ g' rfl;exact BP.val hr v (λ C=>by
      simp only[g6,hr.ev e (by intro e;cases e),D5,AH.px,AH.get];rw[kF ib hb,ay];simp only[A3.e7,g1,g2,h1,Option.map_some]) h2
    ·exact h.elim
  ·exact h.elim
 ·rename_i cs e
  split at h
  ·rename_i ds hp
   rw[GT]at h;cases hd:DR ds<;>simp only[hd,cond_true,cond_false]at h;obtain ⟨v,h1,h2⟩:=Q0 σ h;rw[IB hd]at h1;exact BP.val hr v (λ C=>by simp only[g6,hr.ev e (by intro e;cases e),IL,hp,h1,Option.map_some]) h2
  ·exact h.elim
 ·exact h.elim
theorem nL {n:Nat} {x v:AR} (hr:RX σ tm M st) (h:XE L tm M c7 K (.st n x v)):BP L tm c7 K (.st n x v) st:=by
 simp only[XE,lT]at h;split at h
 ·rename_i key t i j e
  obtain ⟨h0,vs,hc,h5⟩:=bH h;clear h;cases hn:Nat.beq vs.length n<;>simp only[hn,cond_true,cond_false]at h5;have qt:=BI.1 hn;split at h5
  ·rename_i s c hm
   have hs:=hr.sat.site _ _ _ hm;split at h5
   ·have ay:=hr.sat.e7 _ _ _ (DD hm)
    rw[hs]at ay;split at h5
    ·rename_i cs
     cases hi:Nat.beq i 0<;>simp only[hi,cond_true,cond_false]at h5;obtain rfl:=BI.1 hi;have hl:Nat.ble (j+vs.length) cs.length=true:=by
      cases hl:Nat.ble (j+vs.length) cs.length
      ·rw[hl]at h5;exact h5.elim
      ·rfl
     rw[hl]at h5;simp only[cond_true,GT]at h5;refine ⟨.ea (.l6 []) (st.own.put s ((st.own s).q8 (σ key 0).2 (some (A3.e7 σ key (.bx (splice cs j vs)))))),σ,_,_,λ C => ?_,h5,rfl,hr.Mi hm trivial _ trivial (λ h=>nomatch h)⟩;simp only[g6,hr.ev e (by intro e;cases e),D5,hr.ev rfl h0,OG hc,List.length_map];rw[if_pos qt];simp only[AH.me,AH.get,hs,ay,A3.e7,List.getElem?_cons_zero,List.length_map];rw[if_pos (Nat.le_of_ble_eq_true hl)];simp only[Option.map_some,List.set_cons_zero,yA];have:(splice cs j vs).length=cs.length:=by
      have:=Nat.le_of_ble_eq_true hl
      simp only[splice,List.length_append,List.length_take,List.length_drop];omega
     rw[this]
    ·rename_i z es
     cases hd:DR vs<;>simp only[hd,cond_true,cond_false]at h5;obtain ⟨cs,g1,g2,h5⟩:=h5;refine ⟨.ea (.l6 []) (st.own.put s ((st.own s).q8 (σ key 0).2 (some (A3.e7 σ key (.rw z (es.set i (splice cs j vs))))))),σ,_,_,λ C => ?_,h5,rfl,hr.Mi hm trivial _ trivial (λ_=>rfl)⟩;simp only[g6,hr.ev e (by intro e;cases e),D5,hr.ev rfl h0,OG hc,IB hd];rw[if_pos qt];simp only[AH.me,AH.get,hs,ay,A3.e7,g1];rw[if_pos g2];rfl
    ·exact h5.elim
    ·rename_i rows
     split at h5
     ·rename_i x9 z m
      cases il:Nat.beq key x9<;>simp only[il,cond_true,cond_false]at h5;cases cg:IU key tm<;>simp only[cg,cond_true,cond_false]at h5;cases nc:HL key M<;>simp only[nc,cond_true,cond_false]at h5;cases hj:Nat.beq j 0<;>simp only[hj,cond_true,cond_false]at h5;obtain rfl:=BI.1 hj;split at h5
      ·rename_i s2 z' es gx
       cases hz:Nat.beq z z'<;>simp only[hz,cond_true,cond_false]at h5;obtain rfl:=BI.1 hz;rw[OQ]at h5;obtain ⟨rfl,hi,h5⟩:=h5;have hlen:(BU σ key 0 rows)[i]? = some ((BU σ key 0 rows)[i]'(by rw[EU];exact hi)):=zE _;have lq:((BU σ key 0 rows)[i]'(by rw[EU];exact hi)).length=1:=by
        have:=ET (σ:=σ) (k:=key) rows 0 i
        rw[hlen,zE hi]at this;simp only[Option.map_some,Option.some.injEq]at this;rw[this];split<;>rfl
       refine ⟨.ea (.l6 []) (st.own.put s ((st.own s).q8 (σ key 0).2 (some ⟨1,(BU σ key 0 rows).set i [.row (σ x9 0).1 (σ x9 0).2 z 0 es.length]⟩))),_,_,_,λ C => ?_,h5,rfl,hr.Br hm (Or.inl rfl) gx (E5.1 il) cg nc hi⟩;simp only[g6,hr.ev e (by intro e;cases e),D5,hr.ev rfl h0,OG hc,List.length_map];rw[if_pos qt];simp only[AH.me,AH.get,hs,ay,A3.e7,hlen,List.map_cons,List.map_nil,List.length_cons,List.length_nil,A4];rw[if_pos (by omega)];simp only[Option.map_some];have Fv:splice ((BU σ key 0 rows)[i]'(by rw[EU];exact hi)) 0 [.row (σ x9 0).1 (σ x9 0).2 z 0 es.length]=[.row (σ x9 0).1 (σ x9 0).2 z 0 es.length]:=by
        simp only[splice,List.take_zero,List.nil_append,List.length_cons,List.length_nil,Nat.zero_add];rw[List.drop_of_length_le (by omega)];rfl
       rw[Fv]
      ·exact h5.elim
     ·rename_i x9 t2 z m
      cases il:Nat.beq key x9<;>simp only[il,cond_true,cond_false]at h5;cases hj:Nat.beq j 0<;>simp only[hj,cond_true,cond_false]at h5;obtain rfl:=BI.1 hj;obtain rfl:=BI.1 il;obtain ⟨z',es,g0,h5⟩:=h5;cases hz:Nat.beq z z'<;>simp only[hz,cond_true,cond_false]at h5;obtain rfl:=BI.1 hz;obtain ⟨⟨rfl,hi⟩,h5⟩:=h5;have u7:A3.e7 σ key (.vw ((List.range rows.length).set i t2) rows)=⟨1,(BU σ key 0 rows).set i [.row (σ key (t2+1)).1 (σ key (t2+1)).2 z 0 es.length]⟩:=by
       simp only[A3.e7];congr 1;apply List.ext_getElem?;intro p;rw[List.getElem?_map];by_cases hp:i=p
       ·subst hp
        rw[List.getElem?_set_self (by rw[List.length_range];exact hi),List.getElem?_set_self (by rw[EU];exact hi),Option.map_some,ET,g0];simp
       ·rw[List.getElem?_set_ne hp,List.getElem?_set_ne hp,ET]
        by_cases Cr:p<rows.length
        ·rw[List.getElem?_range Cr,Option.map_some,ET,zE Cr,Option.map_some,Option.getD_some]
        ·rw[List.getElem?_eq_none (by rw[List.length_range];omega),List.getElem?_eq_none (by omega)];rfl
      have hv:=hr.view (w:=(List.range rows.length).set i t2) hm (Or.inl rfl);have hlen:(BU σ key 0 rows)[i]? = some ((BU σ key 0 rows)[i]'(by rw[EU];exact hi)):=zE _;have lq:((BU σ key 0 rows)[i]'(by rw[EU];exact hi)).length=1:=by
       have:=ET (σ:=σ) (k:=key) rows 0 i
       rw[hlen,zE hi]at this;simp only[Option.map_some,Option.some.injEq]at this;rw[this];split<;>rfl
      refine ⟨.ea (.l6 []) (st.own.put s ((st.own s).q8 (σ key 0).2 (some (A3.e7 σ key (.vw ((List.range rows.length).set i t2) rows))))),_,_,_,λ C => ?_,h5,rfl,hv⟩;rw[u7];simp only[g6,hr.ev e (by intro e;cases e),D5,hr.ev rfl h0,OG hc,List.length_map];rw[if_pos qt];simp only[AH.me,AH.get,hs,ay,A3.e7,hlen,List.map_cons,List.map_nil,List.length_cons,List.length_nil,A4];rw[if_pos (by omega)];simp only[Option.map_some];have Fv:splice ((BU σ key 0 rows)[i]'(by rw[EU];exact hi)) 0 [.row (σ key (t2+1)).1 (σ key (t2+1)).2 z 0 es.length]=[.row (σ key (t2+1)).1 (σ key (t2+1)).2 z 0 es.length]:=by
       simp only[splice,List.take_zero,List.nil_append,List.length_cons,List.length_nil,Nat.zero_add];rw[List.drop_of_length_le (by omega)];rfl
      rw[Fv]
     ·exact h5.elim
    ·rename_i i0 v0 rows
     split at h5
     ·rename_i x9 z m
      cases il:Nat.beq key x9<;>simp only[il,cond_true,cond_false]at h5;cases cg:IU key tm<;>simp only[cg,cond_true,cond_false]at h5;cases nc:HL key M<;>simp only[nc,cond_true,cond_false]at h5;cases hj:Nat.beq j 0<;>simp only[hj,cond_true,cond_false]at h5;obtain rfl:=BI.1 hj;split at h5
      ·rename_i s2 z' es gx
       cases hz:Nat.beq z z'<;>simp only[hz,cond_true,cond_false]at h5;obtain rfl:=BI.1 hz;rw[OQ]at h5;obtain ⟨⟨rfl,rfl⟩,hi,h5⟩:=h5;refine ⟨.ea (.l6 []) (st.own.put s ((st.own s).q8 (σ key 0).2 (some ⟨1,(BU σ key 0 rows).set i [.row (σ x9 0).1 (σ x9 0).2 z 0 es.length]⟩))),_,_,_,λ C => ?_,h5,rfl,hr.Br hm (Or.inr ⟨v0,rfl⟩) gx (E5.1 il) cg nc hi⟩;simp only[g6,hr.ev e (by intro e;cases e),D5,hr.ev rfl h0,OG hc,List.length_map];rw[if_pos qt];simp only[AH.me,AH.get,hs,ay,A3.e7,List.getElem?_set_self (show i<(BU σ key 0 rows).length by rw[EU];exact hi),List.map_cons,List.map_nil,List.length_cons,List.length_nil,A4];rw[if_pos (by omega)];simp only[Option.map_some,List.set_set];rfl
      ·exact h5.elim
     ·exact h5.elim
    ·rename_i w rows
     split at h5
     ·rename_i x9 t2 z m
      cases il:Nat.beq key x9<;>simp only[il,cond_true,cond_false]at h5;cases hj:Nat.beq j 0<;>simp only[hj,cond_true,cond_false]at h5;obtain rfl:=BI.1 hj;obtain rfl:=BI.1 il;obtain ⟨z',es,g0,h5⟩:=h5;cases hz:Nat.beq z z'<;>simp only[hz,cond_true,cond_false]at h5;obtain rfl:=BI.1 hz;obtain ⟨⟨rfl,hi,hwr⟩,h5⟩:=h5;have u7:A3.e7 σ key (.vw (w.set i t2) rows)=⟨1,(w.map λ t=>((BU σ key 0 rows)[t]?).getD []).set i [.row (σ key (t2+1)).1 (σ key (t2+1)).2 z 0 es.length]⟩:=by
       simp only[A3.e7];congr 1;apply List.ext_getElem?;intro p;rw[List.getElem?_map];by_cases hp:i=p
       ·subst hp
        rw[List.getElem?_set_self hi,List.getElem?_set_self (by rw[List.length_map];exact hi),Option.map_some,ET,g0];simp
       ·rw[List.getElem?_set_ne hp,List.getElem?_set_ne hp,List.getElem?_map]
      have hv:=hr.view (w:=w.set i t2) hm (Or.inr ⟨w,rfl⟩);have hlen:(w.map λ t=>((BU σ key 0 rows)[t]?).getD [])[i]? = some ((w.map λ t=>((BU σ key 0 rows)[t]?).getD [])[i]'(by rw[List.length_map];exact hi)):=zE _;have lq:((w.map λ t=>((BU σ key 0 rows)[t]?).getD [])[i]'(by rw[List.length_map];exact hi)).length=1:=by
       rw[List.getElem_map];have m9:=hwr w[i] (List.getElem_mem hi);rw[ET,zE m9];simp only[Option.map_some,Option.getD_some];split<;>rfl
      refine ⟨.ea (.l6 []) (st.own.put s ((st.own s).q8 (σ key 0).2 (some (A3.e7 σ key (.vw (w.set i t2) rows))))),_,_,_,λ C => ?_,h5,rfl,hv⟩;rw[u7];simp only[g6,hr.ev e (by intro e;cases e),D5,hr.ev rfl h0,OG hc,List.length_map];rw[if_pos qt];simp only[AH.me,AH.get,hs,ay,A3.e7,hlen,List.map_cons,List.map_nil,List.length_cons,List.length_nil,A4];rw[if_pos (by omega)];simp only[Option.map_some];have Fv:splice ((w.map λ t=>((BU σ key 0 rows)[t]?).getD [])[i]'(by rw[List.length_map];exact hi)) 0 [.row (σ key (t2+1)).1 (σ key (t2+1)).2 z 0 es.length]=[.row (σ key (t2+1)).1 (σ key (t2+1)).2 z 0 es.length]:=by
       simp only[splice,List.take_zero,List.nil_append,List.length_cons,List.length_nil,Nat.zero_add];rw[List.drop_of_length_le (by omega)];rfl
      rw[Fv]
     ·exact h5.elim
   ·rename_i i'
    split at h5
    ·rename_i rows
     cases hd:DR vs<;>simp only[hd,cond_true,cond_false]at h5;obtain ⟨z,es,g0,cs,g1,g2,g3,h5⟩:=h5;have ay:=hr.sat.e7 key (i'+1) (.rw z es) (by simp [c4,hm,g0]);refine ⟨.ea (.l6 []) (st.own.put (σ key (i'+1)).1 ((st.own (σ key (i'+1)).1).q8 (σ key (i'+1)).2 (some ⟨z,es.set i (splice cs j vs)⟩))),σ,_,_,λ C => ?_,h5,rfl,hr.Mg hm g0 g3⟩;simp only[g6,hr.ev e (by intro e;cases e),D5,hr.ev rfl h0,OG hc,IB hd];rw[if_pos qt];simp only[AH.me,AH.get,ay,A3.e7,g1];rw[if_pos g2];rfl
    ·exact h5.elim
  ·exact h5.elim
 ·exact h.elim
theorem Vb {s z bytes:Nat} {zero:List AV} {a c:AR} (hr:RX σ tm M st) (h:XE L tm M c7 K (.mk s z bytes zero a c)):BP L tm c7 K (.mk s z bytes zero a c) st:=by
 simp only[XE]at h;split at h
 ·rename_i k1 p k2 q e1 e2
  cases hz:Nat.beq zero.length z<;>simp only[hz,cond_true,cond_false]at h;cases hd:DR zero<;>simp only[hd,cond_true,cond_false]at h;split at h
  ·cases ib:ES s<;>simp only[ib,cond_true,cond_false]at h
   obtain ⟨⟨g1,g2,g3,g4⟩,h⟩:=h;obtain ⟨k,h1,h2,h3⟩:=G5 h;have kj:A3.flat (.mx (List.replicate p.toNat none)):=by
    intro i x hx;have:=List.getElem?_replicate (n:=p.toNat) (a:=(none:Option (Nat × List (List AV)))) (i:=i)
    rw[this]at hx;split at hx<;>cases hx
   have fw:z=1:=(BI.1 hz).symm;have fy:A3.e7 σ k (.mx (List.replicate p.toNat none))=⟨z,List.replicate p.toNat [.nil]⟩:=by
    simp only[A3.e7,fw];congr 1;have : ∀ (n i:Nat),BU σ k i (List.replicate n none)=List.replicate n [AV.nil]:=by
     intro n;induction n with
     | zero=>intro i;rfl
     | succ n ih=>intro i;rw[List.replicate_succ,List.replicate_succ,BU,ih]
    exact this _ _
   refine ⟨.new s (A3.e7 σ k (.mx (List.replicate p.toNat none))) (λ t => .row s t z 0 p.toNat),_,_,_,λ C => ?_,h3,?_,hr.gk h1 h2 (.mx _) kj rfl (λ_=>ib)⟩
   ·simp only[g6,hr.ev e1 (by intro e;cases e),hr.ev e2 (by intro e;cases e),G0,fy]
    rw[if_pos ⟨g1,g2,g3,g4,BI.1 hz⟩]
   ·simp only[B3.res,CZ,BK]
  ·cases ib:ES s<;>simp only[ib,cond_true,cond_false]at h
   obtain ⟨⟨g1,g2,g3,g4⟩,h⟩:=h;obtain ⟨k,h1,h2,h3⟩:=G5 h;refine ⟨.new s ⟨z,List.replicate p.toNat zero⟩ (λ t => .row s t z 0 p.toNat),_,_,_,λ C => ?_,h3,?_,hr.gk h1 h2 (.rw z _) trivial rfl (λ_=>ib)⟩
   ·simp only[g6,hr.ev e1 (by intro e;cases e),hr.ev e2 (by intro e;cases e),G0]
    rw[if_pos ⟨g1,g2,g3,g4,BI.1 hz⟩]
   ·simp only[B3.res,CZ,BK]
 ·exact h.elim
theorem sP {v:AV} {K:AV->Prop} (h:f2 v K):v ≠ .any/\BC σ v=BJ σ v/\K v:=by
 cases v<;>simp only[f2,GT]at h<;>first|exact h.elim|exact ⟨(by intro e;cases e),rfl,h⟩
theorem uL : ∀ (vs:List AV) (i:Nat),yh vs i ≠ .any->vs[i]? = some (yh vs i)
 | [],_,h=>absurd rfl h
 | _::_,0,_=>rfl
 | _::r,i+1,h=>uL r i h
theorem Ut {x:AR} {i:Nat} (hr:RX σ tm M st) (h:XE L tm M c7 K (.ext x i)):BP L tm c7 K (.ext x i) st:=by
 simp only[XE]at h;split at h
 ·rename_i vs e
  obtain ⟨h1,h2,h3⟩:=sP (σ:=σ) h;refine BP.val hr _ (λ C => ?_) h3;simp only[g6,hr.ev e (by intro e;cases e),H3,List.getElem?_map,uL vs i h1,Option.map_some,h2]
 ·exact h.elim
theorem Va {x:AR} (hr:RX σ tm M st) (h:XE L tm M c7 K (.len x)):BP L tm c7 K (.len x) st:=by
 simp only[XE]at h;split at h
 ·rename_i q es e
  exact BP.val hr _ (λ C=>by simp only[g6,hr.ev e (by intro e;cases e),HE,PR];rfl) h.h
 ·rename_i e
  exact BP.val hr _ (λ C=>by simp only[g6,hr.ev e (by intro e;cases e),FF,PR];rfl) h
 ·rename_i e
  exact BP.val hr _ (λ C=>by simp only[g6,hr.ev e (by intro e;cases e),CZ,PR];rfl) h
 ·exact h.elim
theorem vH {mx:Bool} {k:IntKind} {K:AV->Prop} : ∀ {l:List AV} {a:Int},UT mx k K a l -> ∃ n,JY mx (.int k a) l=some (.int k n)/\K (.int k n)/\(∀ v∈l,v ≠ .any/\BC σ v=v)
 | [],a,h=>⟨a,rfl,h,λ v hv=>by cases hv⟩
 | v::r,a,h=>by
  cases v with
  | int k' b =>
   have h:(bif mx then AF (a<b) (b<=a) (UT mx k K b r) (UT mx k K a r) else AF (b<a) (a<=b) (UT mx k K b r) (UT mx k K a r)):=h;have fin : ∀ c:Int,PX mx (.int k a) (.int k' b)=some (.int k c)->UT mx k K c r -> ∃ n,JY mx (.int k a) (.int k' b::r)=some (.int k n)/\K (.int k n)/\(∀ v∈AV.int k' b::r,v ≠ .any/\BC σ v=v):=by
    intro c hc hx;obtain ⟨n,h1,h2,h3⟩:=vH hx;refine ⟨n,by simp only[JY,hc,h1],h2,λ v hv => ?_⟩;rcases List.mem_cons.1 hv with rfl|hv
    ·exact ⟨(by intro e;cases e),rfl⟩
    ·exact h3 v hv
   cases mx
   ·simp only[cond_false]at h
    by_cases hc:b<a
    ·exact fin b (by simp [PX,hc]) (h.1 hc)
    ·exact fin a (by simp [PX,hc]) (h.2 (by omega))
   ·simp only[cond_true]at h
    by_cases hc:a<b
    ·exact fin b (by simp [PX,hc]) (h.1 hc)
    ·exact fin a (by simp [PX,hc]) (h.2 (by omega))
  | _=>exact (h:False).elim
theorem Vd {mx:Bool} {xs:List AR} (hr:RX σ tm M st) (h:XE L tm M c7 K (.mm mx xs)):BP L tm c7 K (.mm mx xs) st:=by
 simp only[XE]at h;split at h
 ·rename_i k a r e
  obtain ⟨n,h1,h2,h3⟩:=vH (σ:=σ) h;refine BP.val hr (.int k n) (λ C => ?_) h2;have hx : ∀ v∈QM tm xs,v ≠ .any:=by
   rw[e];intro v hv;rcases List.mem_cons.1 hv with rfl|hv
   ·intro e;cases e
   ·exact (h3 v hv).1
  have hm:(QM tm xs).map (BC σ) = .int k a::r:=by
   rw[e,List.map_cons];congr 1;conv=>rhs;rw[<-List.map_id r]
   exact List.map_congr_left λ v hv=>(h3 v hv).2
  simp only[g6];rw[show xs.map st.ev = .int k a::r from (evL hr hx).trans hm];simp only[h1,Option.map_some,G0]
 ·exact h.elim
theorem AhI (hr:RX σ tm M st) {k t:Nat} {K:Nat->List (List AV)->Prop} (h:kV M k t K) : ∃ z es,(st.own (σ k t).1).e7 (σ k t).2=some ⟨z,es⟩/\K z es:=by
 unfold kV at h;split at h
 ·rename_i s c hm
  split at h
  ·split at h
   ·exact ⟨_,_,hr.sat.e7 _ _ _ (DD hm),h⟩
   ·exact h.elim
  ·rename_i i
   split at h
   ·rename_i rows
    obtain ⟨z,es,g,h⟩:=h;exact ⟨z,es,hr.sat.e7 k (i+1) (.rw z es) (by simp [c4,hm,g]),h⟩
   ·exact h.elim
 ·exact h.elim
theorem Aij {own n9:AH} {s t i j:Nat} {vs:List AV} (h:own.me s t i j vs=some n9):own.put s (n9 s)=n9:=by
 unfold AH.me at h;cases hg:own.get s t with
 | none=>simp [hg]at h
 | some b =>
  simp only[hg]at h;cases he:b.es[i]? with
  | none=>simp [he]at h
  | some cs =>
   simp only[he]at h;split at h
   ·obtain rfl:=Option.some.inj h
    rw[AH.l8]
   ·cases h
theorem Tf {s n:Nat} {x v:AR} (hr:RX σ tm M st) (h:XE L tm M c7 K (.nv s n x v)):BP L tm c7 K (.nv s n x v) st:=by
 simp only[XE]at h;split at h
 ·rename_i key i j e1
  split at h
  ·rename_i s' c hm
   cases hb:Nat.beq s' s<;>simp only[hb,cond_true,cond_false]at h;obtain rfl:=BI.1 hb;have ft:=hr.sat.site _ _ _ hm;obtain ⟨E,σ',v',M',h1,h2,h3,h4⟩:=nL (c7:=c7) (L:=L) hr (show XE L tm M c7 K (.st n x v) from h);have cp:=hr.ev e1 (by intro e;cases e);rw[D5,ft]at cp;have key : ∀ vs,cellsOf (st.ev v)=some vs->vs.length=n -> ∃ o',st.own.me s' (σ key 0).2 i j vs=some o'/\E = .ea (.l6 []) o':=λ vs ia hn=>by
    have:=h1 0
    simp only[g6,cp,ia]at this;rw[if_pos hn,Option.map_eq_some_iff]at this;obtain ⟨o',a1,a2⟩:=this;exact ⟨o',a1,a2.symm⟩
   cases ia:cellsOf (st.ev v) with
   | none=>have:=h1 0;simp [g6,cp,ia]at this
   | some vs =>
    by_cases hn:vs.length=n
    ·obtain ⟨o',a1,rfl⟩:=key vs ia hn
     refine ⟨.q8 s' (o' s'),σ',v',M',λ C => ?_,h2,h3,?_⟩
     ·simp only[g6,cp,ia]
      rw[if_pos ⟨trivial,hn⟩,a1];rfl
     ·have e2:(B3.res st.own (.q8 s' (o' s'))).2=o':=Aij a1
      rw[e2];exact h4
    ·have:=h1 0
     simp only[g6,cp,ia]at this;rw[if_neg hn]at this;cases this
  ·exact h.elim
 ·exact h.elim
theorem Uy {ne:Bool} {x:AR} (hr:RX σ tm M st) (h:XE L tm M c7 K (.ry ne x)):BP L tm c7 K (.ry ne x) st:=by
 simp only[XE]at h;split at h
 ·rename_i e1
  rw[QN]at h;exact BP.val hr _ (λ C=>by simp only[g6,hr.ev e1 (by intro e;cases e),FF,GL]) h
 ·rename_i b e1
  rw[QN]at h;exact BP.val hr _ (λ C=>by simp only[g6,hr.ev e1 (by intro e;cases e),AhJ,GL]) h
 ·rename_i q es e1
  obtain ⟨h0,h⟩:=h;rw[QN]at h;cases es with
  | nil=>exact absurd rfl h0
  | cons e es=>exact BP.val hr _ (λ C=>by simp only[g6,hr.ev e1 (by intro e;cases e),HE,GL]) h
 ·rename_i s t z o n e1
  obtain ⟨h0,h⟩:=h;rw[QN]at h;cases n with
  | zero=>exact absurd h0 (by omega)
  | succ n=>exact BP.val hr _ (λ C=>by simp only[g6,hr.ev e1 (by intro e;cases e),CZ,GL]) h
 ·exact h.elim
theorem Td {tb:List Nat} {x:AR} (hr:RX σ tm M st) (h:XE L tm M c7 K (.gn tb x)):BP L tm c7 K (.gn tb x) st:=by
 simp only[XE]at h;split at h
 ·rename_i k n e1
  obtain ⟨h0,v,h1,h2⟩:=h;exact BP.val hr _ (λ C=>by simp only[g6,hr.ev e1 (by intro e;cases e),G0,h1];rw[if_pos h0]) h2
 ·exact h.elim
theorem AeP {v:AV} {K:AV->Prop} (h:fF v K):v ≠ .any/\F7 (BC σ v)=some (A4 σ v)/\K v:=by
 cases v<;>first|exact (h:False).elim|exact ⟨(by intro e;cases e),rfl,h⟩
theorem vS (hr:RX σ tm M st) : ∀ {l:List AR} {K:List AV->Prop},kC tm l K -> ∃ cs,l.mapM (λ x=>F7 (st.ev x))=some (cs.map (A4 σ))/\K cs
 | [],K,h=>⟨[],rfl,h⟩
 | x::r,K,h=>by
  obtain ⟨h0,hc,h⟩:=AeP (σ:=σ) (show fF (ex tm x) λ v=>kC tm r λ cs=>K (v::cs) from h);obtain ⟨cs,h1,h2⟩:=vS hr h;refine ⟨ex tm x::cs,?_,h2⟩;rw[List.mapM_cons,h1,hr.ev rfl h0,hc];rfl
theorem Vc {p:Bool} {f:Nat} {xs:List AR} (hr:RX σ tm M st) (h:XE L tm M c7 K (.qa p f xs)):BP L tm c7 K (.qa p f xs) st:=by
 simp only[XE]at h;obtain ⟨cs,h1,h2⟩:=vS hr h;exact BP.val hr _ (λ C=>by simp only[g6,h1,Option.map_some,dB,List.isEmpty_map];rfl) h2
theorem Yj (hr:RX σ tm M st) {v:AV} {K:List (List AV)->Prop} (h:bC M v K):v ≠ .any /\ ∃ es,EB st.own (BC σ v)=some es/\K es:=by
 cases v with
 | sl q es=>exact ⟨(by intro e;cases e),_,rfl,h⟩
 | nil=>exact ⟨(by intro e;cases e),_,rfl,h⟩
 | da v =>
  cases v with
  | bool b=>exact ⟨(by intro e;cases e),_,rfl,h⟩
  | _=>exact (h:False).elim
 | row key t z off len =>
  simp only[bC]at h;obtain ⟨z',es,g,h⟩:=AhI hr h;cases hz:Nat.beq z z'<;>simp only[hz,cond_true,cond_false]at h;obtain rfl:=BI.1 hz;refine ⟨(by intro e;cases e),_,?_,h.2⟩;simp only[CZ,EB,AH.get,g];rw[if_pos ⟨h.1,trivial⟩]
 | _=>exact (h:False).elim
theorem kD (hr:RX σ tm M st) {o:Option AR} {K:Option Int->Prop} (h:cJ tm o K):(o=none/\K none) \/ ∃ x k n,o=some x/\st.ev x = .int k n/\K (some n):=by
 unfold cJ at h;split at h
 ·exact Or.inl ⟨rfl,h⟩
 ·split at h
  ·rename_i e
   exact Or.inr ⟨_,_,_,rfl,hr.ev e (by intro e;cases e),h⟩
  ·exact h.elim
theorem Te {z:Nat} {x:AR} {lo hi:Option AR} (hr:RX σ tm M st) (h:XE L tm M c7 K (.gp z x lo hi)):BP L tm c7 K (.gp z x lo hi) st:=by
 simp only[XE]at h;have go : ∀ (a b:Option Int),(match ex tm x with
   | .sl l es=>CQ z es a b λ es=>K (.sl l es) M
   | .row key t z' off len=>bif Nat.beq z' z then B5 a b len λ a h=>K (.row key t z (off+a) (h-a)) M else False
   | .nil=>(match a,b with
    | none,none=>K .nil M
    | some a,none=>AM (a=0) (K .nil M)
    | none,some h=>AM (h=0) (K .nil M)
    | some a,some h=>AM (a=0/\h=0) (K .nil M))
   | _=>False)->(lo=none/\a=none \/ ∃ y k n,lo=some y/\st.ev y = .int k n/\a=some n)->(hi=none/\b=none \/ ∃ y k n,hi=some y/\st.ev y = .int k n/\b=some n)->BP L tm c7 K (.gp z x lo hi) st:=by
  intro a b h ha hb;split at h
  ·rename_i q es e
   obtain ⟨g1,a',h',g2,g3,g4,h⟩:=h;refine BP.val hr _ (λ C => ?_) h;rcases ha with ⟨rfl,rfl⟩|⟨y,k,n,rfl,e1,rfl⟩<;>rcases hb with ⟨rfl,rfl⟩|⟨y',k',n',rfl,e2,rfl⟩<;>try simp only at g2 g3<;>simp only[g6,hr.ev e (by intro e;cases e),HE, *]<;>simp_all
  ·rename_i key t z' off len e
   cases hz:Nat.beq z' z<;>simp only[hz,cond_true,cond_false]at h;obtain rfl:=BI.1 hz;obtain ⟨a',h',g2,g3,g4,h⟩:=h;refine BP.val hr _ (λ C => ?_) h;rcases ha with ⟨rfl,rfl⟩|⟨y,k,n,rfl,e1,rfl⟩<;>rcases hb with ⟨rfl,rfl⟩|⟨y',k',n',rfl,e2,rfl⟩<;>try simp only at g2 g3<;>simp only[g6,hr.ev e (by intro e;cases e),CZ, *]<;>simp_all
  ·rename_i e
   rcases ha with ⟨rfl,rfl⟩|⟨y,k,n,rfl,e1,rfl⟩<;>rcases hb with ⟨rfl,rfl⟩|⟨y',k',n',rfl,e2,rfl⟩<;>simp only at h
   ·exact BP.val hr .nil (λ C=>by simp only[g6,hr.ev e (by intro e;cases e),FF]) h
   ·exact BP.val hr .nil (λ C=>by simp only[g6,hr.ev e (by intro e;cases e),FF,e2,h.1,if_true]) h.2
   ·exact BP.val hr .nil (λ C=>by simp only[g6,hr.ev e (by intro e;cases e),FF,e1,h.1,if_true]) h.2
   ·exact BP.val hr .nil (λ C=>by simp only[g6,hr.ev e (by intro e;cases e),FF,e1,e2,h.1.1,h.1.2,if_true]) h.2
  ·exact h.elim
 rcases kD hr h with ⟨h1,h⟩|⟨y,k,n,h1,h2,h⟩
 ·rcases kD hr h with ⟨g1,h⟩|⟨y,k,n,g1,g2,h⟩
  ·exact go _ _ h (Or.inl ⟨h1,rfl⟩) (Or.inl ⟨g1,rfl⟩)
  ·exact go _ _ h (Or.inl ⟨h1,rfl⟩) (Or.inr ⟨_,_,_,g1,g2,rfl⟩)
 ·rcases kD hr h with ⟨g1,h⟩|⟨y',k',n',g1,g2,h⟩
  ·exact go _ _ h (Or.inr ⟨_,_,_,h1,h2,rfl⟩) (Or.inl ⟨g1,rfl⟩)
  ·exact go _ _ h (Or.inr ⟨_,_,_,h1,h2,rfl⟩) (Or.inr ⟨_,_,_,g1,g2,rfl⟩)
theorem cU {s key:Nat} : ∀ {M:Mem},F9 s M=false->F9 s (q5 key M)=false
 | [],_=>rfl
 | (i,s0,c0)::r,h=>by
  simp only[F9]at h;cases q0:Nat.beq s i<;>simp only[q0,cond_true,cond_false]at h
  ·cases q1:GK s c0<;>simp only[q1,cond_true,cond_false]at h
   ·simp only[q5]
    cases Nat.beq key i
    ·simp only[cond_false,F9,q0,q1,cU h]
    ·simp only[cond_true,cU h]
   ·cases h
  ·cases h
theorem Ul {s z bytes:Nat} {x y:AR} (hr:RX σ tm M st) (h:bC M (ex tm y) λ ys=>match ex tm x with
   | .row key 0 z' off len=>bif Nat.beq off 0 then bif Nat.beq z' z then (match c8 M key with
    | some (s',.rw ek es)=>bif Nat.beq ek z then fM (q5 key M) λ M'=>(B2 es len ys z bytes λ es' n=>FP s tm M λ k=>K (.row k 0 z 0 n) ((k,s',.rw z es')::M')) else False
    | _=>False) else False else False
   | .row key (i+1) z' off len=>bif Nat.beq off 0 then bif Nat.beq z' z then (match c8 M key with
    | some (sk,.mx rows)=>fM (q5 key M) λ M'=>BO rows i λ ek es=>bif Nat.beq ek z then (B2 es len ys z bytes λ es' n => ∀ s' v,FP s tm M λ k=>K (.row k 0 z 0 n) ((k,s',.rw z es')::(key,sk,.hx i v (rows.set i none))::M')) else False
    | _=>False) else False else False
   | .nil=>bif ES s then CX ys z bytes λ es n=>FP s tm M λ k=>K (.row k 0 z 0 n) ((k,s,.rw z es)::M) else False
   | _=>False):BP L tm c7 K (.app s z bytes x y) st:=by
 obtain ⟨h0,ys,hy,h⟩:=Yj hr h;have yc:EB st.own (st.ev y)=some ys:=by rw[hr.ev rfl h0];exact hy
 split at h
 ·rename_i key z' off len e
  cases ho:Nat.beq off 0<;>simp only[ho,cond_true,cond_false]at h;cases hz:Nat.beq z' z<;>simp only[hz,cond_true,cond_false]at h;obtain rfl:=BI.1 ho;obtain rfl:=BI.1 hz;split at h
  ·rename_i s' ek es hm
   cases qw:Nat.beq ek z'<;>simp only[qw,cond_true,cond_false]at h;obtain rfl:=BI.1 qw;rw[OQ]at h;obtain ⟨g1,g2,g3,g4,h⟩:=h;obtain ⟨k,h1,h2,h3⟩:=G5 h;have hs:=hr.sat.site _ _ _ hm;have ay:=hr.sat.e7 _ _ _ (DD hm);have hn:=(hr.kill hm).gk (s:=k) (q:=s') (cU h1) h2 (.rw ek (es.take len++ys)) trivial rfl (λ_=>by have:=hr.sat.low _ _ _ (DD hm) rfl;rwa [hs]at this);have Ag:(st.own.put s' ((st.own s').q8 (σ key 0).2 none)).g8 s'=st.own.g8 s':=by simp [AH.g8,AH.l8,B1.q8]
   simp only[AH.l8,AH.mc,Ag]at hn;refine ⟨.ea (.row s' (st.own.g8 s') ek 0 (len+ys.length)) (st.own.put s' (((st.own s').q8 (σ key 0).2 none).new ⟨ek,es.take len++ys⟩)),_,_,_,λ C => ?_,h3,?_,hn⟩
   ·rw[hs]at ay
    simp only[g6,yc,hr.ev e (by intro e;cases e),CZ,AH.get,hs,ay,A3.e7];rw[if_pos g2,if_pos ⟨trivial,trivial,g1,g3,g4⟩]
   ·simp only[B3.res,CZ,BK]
  ·exact h.elim
 ·rename_i key i z' off len e
  cases ho:Nat.beq off 0<;>simp only[ho,cond_true,cond_false]at h;cases hz:Nat.beq z' z<;>simp only[hz,cond_true,cond_false]at h;obtain rfl:=BI.1 ho;obtain rfl:=BI.1 hz;split at h
  ·rename_i sk rows hm
   rw[OQ]at h;obtain ⟨ek,es,g0,h⟩:=h;cases qw:Nat.beq ek z'<;>simp only[qw,cond_true,cond_false]at h;obtain rfl:=BI.1 qw;obtain ⟨g1,g2,g3,g4,h⟩:=h;have h:=h (σ key (i+1)).1 (.row (σ key (i+1)).1 (σ key (i+1)).2 ek 0 es.length);obtain ⟨k,h1,h2,h3⟩:=G5 h;have ay:=hr.sat.e7 key (i+1) (.rw ek es) (by simp [c4,hm,g0]);have hn:=hr.Hw (s:=k) (es':=es.take len++ys) hm g0 h1 h2;refine ⟨.ea (.row (σ key (i+1)).1 (st.own.g8 (σ key (i+1)).1) ek 0 (len+ys.length)) (st.own.put (σ key (i+1)).1 (((st.own (σ key (i+1)).1).q8 (σ key (i+1)).2 none).new ⟨ek,es.take len++ys⟩)),_,_,_,λ C => ?_,h3,?_,hn⟩
   ·simp only[g6,yc,hr.ev e (by intro e;cases e),CZ,AH.get,ay,A3.e7]
    rw[if_pos g2,if_pos ⟨trivial,trivial,g1,g3,g4⟩]
   ·simp only[B3.res,CZ,BK]
  ·exact h.elim
 ·rename_i e
  cases ib:ES s<;>simp only[ib,cond_true,cond_false]at h;obtain ⟨g2,g3,g4,h⟩:=h;obtain ⟨k,h1,h2,h3⟩:=G5 h;refine ⟨.ea (.row s (st.own.g8 s) z 0 ys.length) (st.own.put s ((st.own s).new ⟨z,ys⟩)),_,_,_,λ C => ?_,h3,?_,hr.gk h1 h2 (.rw z ys) trivial rfl (λ_=>ib)⟩
  ·simp only[g6,yc,hr.ev e (by intro e;cases e),FF]
   rw[if_pos g2,if_pos ⟨g3,g4⟩]
  ·simp only[B3.res,CZ,BK]
 ·exact h.elim
theorem Tr {v:AV} {ky k2 z n:Nat} (h:SF M v=some (ky,some (k2,z,n))):v = .row ky 0 1 0 1 /\ ∃ sy,c8 M ky=some (sy,.bs 1 [[.row k2 0 z 0 n]]):=by
 unfold SF at h;split at h
 ·split at h
  ·rename_i hm
   simp only[Option.some.injEq,Prod.mk.injEq]at h;obtain ⟨rfl,rfl,rfl,rfl⟩:=h;exact ⟨rfl,_,hm⟩
  ·simp at h
  ·cases h
 ·cases h
theorem Tq {v:AV} {ky:Nat} (h:SF M v=some (ky,none)):v = .row ky 0 1 0 1 /\ ∃ sy,c8 M ky=some (sy,.rw 1 [[.nil]]):=by
 unfold SF at h;split at h
 ·split at h
  ·simp at h
  ·rename_i hm
   simp only[Option.some.injEq,Prod.mk.injEq,and_true]at h;subst h;exact ⟨rfl,_,hm⟩
  ·cases h
 ·cases h
theorem uK {z:Nat} : ∀ {es:List (List AV)},YW z es=true -> ∀ e∈es,e.length=z
 | [],_,e,he=>by cases he
 | a::r,h,e,he=>by
  simp only[YW]at h;cases h1:Nat.beq a.length z<;>simp only[h1,cond_true,cond_false]at h
  ·cases h
  ·rcases List.mem_cons.1 he with rfl|he
   ·exact BI.1 h1
   ·exact uK h e he
theorem xA {k:Nat} {b:List (List AV)} (r2:IJ k b=false) : ∀ {a:List (List AV)},IJ k a=false->IJ k (a++b)=false
 | [],_=>r2
 | c::a,h=>by
  simp only[IJ,List.cons_append]at h ⊢;cases hq:HC k c<;>simp only[hq,cond_true,cond_false]at h ⊢
  ·exact xA r2 h
  ·cases h
theorem Um {s z bytes:Nat} {x y:AR} (hr:RX σ tm M st) (h:eP tm M s z bytes x y K):BP L tm c7 K (.app s z bytes x y) st:=by
 unfold eP at h;split at h
 ·rename_i ky zy ny ey
  split at h
  ·rename_i sy z2 kg qp
   cases a1:Nat.beq zy z<;>simp only[a1,cond_true,cond_false]at h;cases a2:Nat.beq z2 z<;>simp only[a2,cond_true,cond_false]at h;cases a3:Nat.beq ny kg.length<;>simp only[a3,cond_true,cond_false]at h;cases a4:YW z kg<;>simp only[a4,cond_true,cond_false]at h;have b1:=BI.1 a1;have b2:=BI.1 a2;have b3:=BI.1 a3;subst b1 b2 b3;have kb:=hr.sat.site _ _ _ qp;have qk:=hr.sat.e7 _ _ _ (DD qp);rw[kb]at qk
   have zz:EB st.own (st.ev y)=some (kg.map λ cs=>cs.map (A4 σ)):=by
    rw[hr.ev ey (by intro e;cases e)];simp only[CZ,EB,AH.get,kb,qk,A3.e7];rw[if_pos (by simp),List.drop_zero,zT (by simp)]
   have x7 : ∀ e∈kg.map (λ cs=>cs.map (A4 σ)),e.length=z2:=λ e he=>by
    obtain ⟨c,hc,rfl⟩:=List.mem_map.1 he;rw[List.length_map];exact uK a4 c hc
   split at h
   ·rename_i e
    cases ib:ES s<;>simp only[ib,cond_true,cond_false]at h;obtain ⟨⟨g3,g4⟩,h⟩:=jN h;obtain ⟨k,h1,h2,h3⟩:=G5 h;have zl:GK k (.bs z2 kg)=false:=(OW h1 _ _ _ qp).2;refine ⟨.ea (.row s (st.own.g8 s) z2 0 kg.length) (st.own.put s ((st.own s).new ⟨z2,kg.map λ cs=>cs.map (A4 σ)⟩)),_,_,_,λ C => ?_,h3,?_,hr.gk h1 h2 (.bs z2 kg) trivial zl (λ_=>ib)⟩
    ·simp only[g6,zz,hr.ev e (by intro e;cases e),FF]
     rw[if_pos x7,if_pos ⟨by simpa [EC] using g3,by simpa using g4⟩,List.length_map]
    ·simp only[B3.res,CZ,BK]
   ·rename_i kx zx len e
    cases c1:Nat.beq zx z2<;>simp only[c1,cond_true,cond_false]at h;split at h
    ·rename_i s' z1 vo hm
     cases c2:Nat.beq z1 z2<;>simp only[c2,cond_true,cond_false]at h;cases c3:Nat.beq len vo.length<;>simp only[c3,cond_true,cond_false]at h;have d1:=BI.1 c1;have d2:=BI.1 c2;have d3:=BI.1 c3;subst d1 d3;rw[OQ]at h;obtain ⟨⟨g3,g4⟩,h⟩:=jN h;obtain ⟨k,h1,h2,h3⟩:=G5 h;have hs:=hr.sat.site _ _ _ hm;have ay:=hr.sat.e7 _ _ _ (DD hm);have r1:IJ k vo=false:=(OW h1 _ _ _ hm).2;have r2:IJ k kg=false:=(OW h1 _ _ _ qp).2;have zl:GK k (.bs zx (vo++kg))=false:=by
      exact xA r2 r1
     have hn:=(hr.kill hm).gk (s:=k) (q:=s') (cU h1) h2 (.bs zx (vo++kg)) trivial zl (λ_=>by have:=hr.sat.low _ _ _ (DD hm) rfl;rwa [hs]at this);have Ag:(st.own.put s' ((st.own s').q8 (σ kx 0).2 none)).g8 s'=st.own.g8 s':=by simp [AH.g8,AH.l8,B1.q8]
     simp only[AH.l8,AH.mc,Ag,A3.e7,List.map_append]at hn;rw[hs]at ay;refine ⟨.ea (.row s' (st.own.g8 s') zx 0 (vo.length+kg.length)) (st.own.put s' (((st.own s').q8 (σ kx 0).2 none).new ⟨zx,vo.map (λ cs=>cs.map (A4 σ))++kg.map λ cs=>cs.map (A4 σ)⟩)),_,_,_,λ C => ?_,h3,?_,hn⟩
     ·simp only[g6,zz,hr.ev e (by intro e;cases e),CZ,AH.get,hs,ay,A3.e7]
      rw[if_pos x7,if_pos ⟨d2,trivial,by simp,by simpa [EC] using g3,by simpa using g4⟩,zT (by simp),List.length_map]
     ·simp only[B3.res,CZ,BK,List.length_append]
    ·exact h.elim
   ·exact h.elim
  ·exact h.elim
 ·exact h.elim
theorem Uk {s z bytes:Nat} {x y:AR} (hr:RX σ tm M st) (h:XE L tm M c7 K (.app s z bytes x y)):BP L tm c7 K (.app s z bytes x y) st:=by
 simp only[XE]at h;cases hV:Nat.ble 800000 s<;>simp only[hV,cond_true,cond_false]at h;rotate_left
 ·exact Um hr h
 split at h
 ·rename_i ky k2 z2 n2 Ja
  obtain ⟨pq,sy,qp⟩:=Tr Ja;have kb:=hr.sat.site _ _ _ qp;have qk:=hr.sat.e7 _ _ _ (DD qp);rw[kb]at qk
  have zz:EB st.own (st.ev y)=some [[.row (σ k2 0).1 (σ k2 0).2 z2 0 n2]]:=by
   rw[hr.ev pq (by intro e;cases e)];simp only[CZ,EB,AH.get,kb,qk,A3.e7,A4,List.map_cons,List.map_nil,List.length_cons,List.length_nil];simp
  split at h
  ·rename_i key z' off len e
   cases ho:Nat.beq off 0<;>simp only[ho,cond_true,cond_false]at h;cases hz:Nat.beq z' 1<;>simp only[hz,cond_true,cond_false]at h;cases fw:Nat.beq z 1<;>simp only[fw,cond_true,cond_false]at h;cases jd:Nat.beq key k2<;>simp only[jd,cond_true,cond_false]at h;cases Kf:Nat.beq key ky<;>simp only[Kf,cond_true,cond_false]at h;cases hk3:Nat.beq k2 ky<;>simp only[hk3,cond_true,cond_false]at h;obtain rfl:=BI.1 ho;obtain rfl:=BI.1 hz;obtain rfl:=BI.1 fw;split at h
   ·rename_i s2 z3 es gx
    cases Gd:Nat.beq z2 z3<;>simp only[Gd,cond_true,cond_false]at h;obtain rfl:=BI.1 Gd;split at h
    ·rename_i s' rows hm
     rw[OQ]at h;obtain ⟨rfl,rfl,g3,g4,h⟩:=h;obtain ⟨k,h1,h2,h3⟩:=G5 h;have hs:=hr.sat.site _ _ _ hm;have ay:=hr.sat.e7 _ _ _ (DD hm);rw[hs]at ay;refine ⟨.ea (.row s' (st.own.g8 s') 1 0 (rows.length+1)) (st.own.put s' (((st.own s').q8 (σ key 0).2 none).new ⟨1,BU σ key 0 rows++[[.row (σ k2 0).1 (σ k2 0).2 z2 0 es.length]]⟩)),_,_,_,λ C => ?_,h3,?_,hr.Hx (ky:=ky) hm gx (E5.1 jd) h1 h2⟩
     ·simp only[g6,zz,hr.ev e (by intro e;cases e),CZ,AH.get,hs,ay,A3.e7]
      rw[if_pos (by simp),if_pos ⟨trivial,trivial,by rw[EU];exact Nat.le_refl _,by simpa using g3,by simpa using g4⟩];rw[zT (by rw[EU];exact Nat.le_refl _)];rfl
     ·simp only[B3.res,CZ,BK]
    ·exact h.elim
   ·exact h.elim
  ·rename_i e
   cases ib:ES s<;>simp only[ib,cond_true,cond_false]at h;cases fw:Nat.beq z 1<;>simp only[fw,cond_true,cond_false]at h;obtain rfl:=BI.1 fw;split at h
   ·rename_i s2 z3 es gx
    cases Gd:Nat.beq z2 z3<;>simp only[Gd,cond_true,cond_false]at h;obtain rfl:=BI.1 Gd;rw[OQ]at h;obtain ⟨⟨rfl,g3⟩,h⟩:=h;obtain ⟨k,h1,h2,h3⟩:=G5 h;obtain ⟨σ',q1,q2⟩:=hr.Mf (q:=s) gx (λ e=>(OW h1 _ _ _ gx).1 e.symm) h1 h2 ib;refine ⟨.ea (.row s (st.own.g8 s) 1 0 1) (st.own.put s ((st.own s).new ⟨1,[[.row (σ k2 0).1 (σ k2 0).2 z2 0 es.length]]⟩)),σ',_,_,λ C => ?_,h3,?_,q2⟩
    ·simp only[g6,zz,hr.ev e (by intro e;cases e),FF]
     rw[if_pos (by simp),if_pos ⟨by simpa [EC] using g3,by simp⟩];rfl
    ·simp only[B3.res,CZ,q1]
   ·exact h.elim
  ·exact h.elim
 ·rename_i ky Ja
  obtain ⟨pq,sy,qp⟩:=Tq Ja;have kb:=hr.sat.site _ _ _ qp;have qk:=hr.sat.e7 _ _ _ (DD qp);rw[kb]at qk
  have zz:EB st.own (st.ev y)=some [[.nil]]:=by
   rw[hr.ev pq (by intro e;cases e)];simp only[CZ,EB,AH.get,kb,qk,A3.e7,List.length_cons,List.length_nil];simp
  split at h
  ·rename_i key z' off len e
   cases ho:Nat.beq off 0<;>simp only[ho,cond_true,cond_false]at h;cases hz:Nat.beq z' 1<;>simp only[hz,cond_true,cond_false]at h;cases fw:Nat.beq z 1<;>simp only[fw,cond_true,cond_false]at h;cases Kf:Nat.beq key ky<;>simp only[Kf,cond_true,cond_false]at h;obtain rfl:=BI.1 ho;obtain rfl:=BI.1 hz;obtain rfl:=BI.1 fw;split at h
   ·rename_i s' rows hm
    rw[OQ]at h;obtain ⟨rfl,g3,g4,h⟩:=h;obtain ⟨k,h1,h2,h3⟩:=G5 h;have hs:=hr.sat.site _ _ _ hm;have ay:=hr.sat.e7 _ _ _ (DD hm);rw[hs]at ay;refine ⟨.ea (.row s' (st.own.g8 s') 1 0 (rows.length+1)) (st.own.put s' (((st.own s').q8 (σ key 0).2 none).new ⟨1,BU σ key 0 rows++[[.nil]]⟩)),_,_,_,λ C => ?_,h3,?_,hr.Hy hm h1 h2⟩
    ·simp only[g6,zz,hr.ev e (by intro e;cases e),CZ,AH.get,hs,ay,A3.e7]
     rw[if_pos (by simp),if_pos ⟨trivial,trivial,by rw[EU];exact Nat.le_refl _,by simpa using g3,by simpa using g4⟩];rw[zT (by rw[EU];exact Nat.le_refl _)];rfl
    ·simp only[B3.res,CZ,BK]
   ·exact h.elim
  ·rename_i e
   cases ib:ES s<;>simp only[ib,cond_true,cond_false]at h;cases fw:Nat.beq z 1<;>simp only[fw,cond_true,cond_false]at h;obtain rfl:=BI.1 fw;obtain ⟨g3,h⟩:=h;obtain ⟨k,h1,h2,h3⟩:=G5 h;have kj:A3.flat (.mx [none]):=by
    intro i x hx;cases i with
    | zero=>simp at hx
    | succ i=>simp at hx
   refine ⟨.ea (.row s (st.own.g8 s) 1 0 1) (st.own.put s ((st.own s).new ⟨1,[[.nil]]⟩)),_,_,_,λ C => ?_,h3,?_,hr.gk h1 h2 (.mx [none]) kj rfl (λ_=>ib)⟩
   ·simp only[g6,zz,hr.ev e (by intro e;cases e),FF]
    rw[if_pos (by simp),if_pos ⟨by simpa [EC] using g3,by simp⟩];rfl
   ·simp only[B3.res,CZ,BK]
  ·exact h.elim
 ·exact Ul hr h
end
end Go.e8
