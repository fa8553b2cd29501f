/-
  The walk by computation is sound.
-/
import Derived.Test.YtplhdlbnneoobaaGreatB5
set_option linter.unusedSimpArgs false
set_option linter.unusedVariables false
set_option linter.unnecessarySimpa false
namespace Go.c4
theorem BD {a b:Nat}:Nat.beq a b=true↔a=b:=⟨Nat.eq_of_beq_eq_true,λ h=>by subst h;simp⟩
theorem E2 {a b:Nat}:Nat.beq a b=false↔a≠b:=by
 constructor
 ·exact Nat.ne_of_beq_eq_false
 ·intro h
  cases e:Nat.beq a b
  ·rfl
  ·exact absurd (Nat.eq_of_beq_eq_true e) h
theorem IW (j:Nat) : ∀ tm:Tm,tg tm j=e9 tm j
 | []=>rfl
 | (i,v)::r=>by
  simp only[tg,TZ,IW j r];cases e:Nat.beq j i
  ·rw[if_neg (E2.1 e)];rfl
  ·rw[if_pos (BD.1 e)];rfl
theorem GE : ∀ (l:List AV) (K:List AV->Prop),fL l K=K l
 | [],_=>rfl
 | v::r,K=>by rw[fL,GE r]
theorem SU : ∀ (l:Tm) (K:Tm->Prop),fT l K=K l
 | [],_=>rfl
 | (i,v)::r,K=>by rw[fT,SU r]
theorem I8 : ∀ (l:Mem) (K:Mem->Prop),fM l K=K l
 | [],_=>rfl
 | (k,s,c)::r,K=>by rw[fM,I8 r]
theorem Lx (n:Nat) (K:Nat->Prop):fN n K=K n:=by cases n<;>rfl
theorem XJ (m i:Nat):bit m i=m.testBit i:=by
 have h:Nat.land (Nat.shiftRight m i) 1=(m >>> i)%2:=Nat.and_one_is_mod (m >>> i);have ht:m.testBit i=decide ((m >>> i)%2=1):=by
  rw[Nat.testBit,Nat.and_comm,Nat.and_one_is_mod];rcases Nat.mod_two_eq_zero_or_one (m >>> i) with e|e<;>simp [e]
 unfold bit;rw[h,ht];rcases Nat.mod_two_eq_zero_or_one (m >>> i) with e|e<;>rw[e]<;>rfl
theorem dW (m i j:Nat):bit (Nat.lor m (Nat.shiftLeft 1 i)) j=(bit m j||decide (j=i)):=by
 rw[XJ,XJ];show (m ||| (1 <<< i)).testBit j=_;rw[Nat.testBit_or,Nat.testBit_shiftLeft];congr 1;by_cases h:j=i
 ·subst h;simp
 ·by_cases h2:j≥i
  ·obtain ⟨d,rfl⟩ : ∃ d,j=i+d+1:=⟨j-i-1,by omega⟩
   rw[show i+d+1-i=d+1 by omega,Nat.testBit_succ];simp [h]
  ·simp [h2,h]
theorem dV : ∀ (ts:List Nat) (m j:Nat),bit (mask m ts) j=(bit m j||ts.contains j)
 | [],m,j=>by simp [mask]
 | t::ts,m,j=>by
  rw[mask,dV ts,dW,List.contains_cons,Bool.or_assoc];congr 2
theorem XL (j:Nat):bit 0 j=false:=by rw[XJ];simp
theorem TW (j:Nat) : ∀ (tm:Tm) (m:Nat),tg (qw m tm) j=bif bit m j then .any else tg tm j
 | [],m=>by cases bit m j<;>rfl
 | (i,v)::r,m=>by
  simp only[qw];cases hb:bit m i
  ·simp only[cond_false,tg,TW j r,dW]
   cases hj:Nat.beq j i
   ·have:decide (j=i)=false:=by simpa using E2.1 hj
    simp only[cond_false,this,Bool.or_false]
   ·obtain rfl:=BD.1 hj
    simp only[cond_true,hb,cond_false]
  ·simp only[cond_true,tg,TW j r]
   cases hj:Nat.beq j i
   ·rfl
   ·obtain rfl:=BD.1 hj
    simp only[hb,cond_true]
theorem VK {v:AV} {K:AV->Prop} (h:fV v K):v ≠ .any/\K v:=by
 cases v<;>simp only[fV,GE]at h<;>first|exact h.elim|exact ⟨(by intro e;cases e),h⟩
theorem VJ {v:AV} {K:List AV->Prop} (h:fC v K):v ≠ .any /\ ∃ cs,cellsOf v=some cs/\K cs:=by
 cases v<;>simp only[fC,fV,GE]at h<;>first|exact h.elim|exact ⟨(by intro e;cases e),_,rfl,h⟩
theorem NN (b:Bool) (K:Bool->Prop):fB b K=K b:=by cases b<;>rfl
theorem oZ {k:Nat} {tm:Tm} {M:Mem} (h:used k tm M=false):F5 k M=false/\HA k tm=false:=by
 unfold used at h;cases h1:F5 k M<;>simp only[h1,cond_true,cond_false]at h
 ·exact ⟨rfl,h⟩
 ·cases h
theorem mQ {tm:Tm} {M:Mem} {K:Nat->Prop} : ∀ {l:List Nat},V1 tm M l K -> ∃ k,F5 k M=false/\HA k tm=false/\K k
 | [],h=>h.elim
 | k::r,h=>by
  simp only[V1]at h;cases h0:used k tm M<;>simp only[h0,cond_true,cond_false]at h
  ·exact ⟨k,(oZ h0).1,(oZ h0).2,h⟩
  ·exact mQ h
theorem FY {s:Nat} {tm:Tm} {M:Mem} {K:Nat->Prop} (h:E1 s tm M K) : ∃ k,F5 k M=false/\HA k tm=false/\K k:=mQ h
section
variable {σ:FA}
def CX (σ:FA) (k:Nat) (f:Nat->Nat × Nat):FA:=λ j t=>if j=k then f t else σ j t
theorem CJ {k j:Nat} (f:Nat->Nat × Nat) (h:j≠k):CX σ k f j=σ j:=by funext t;simp [CX,h]
theorem BP (k:Nat) (f:Nat->Nat × Nat):CX σ k f k=f:=by funext t;simp [CX]
theorem bV {k:Nat} {p:Nat->Nat × Nat} {v:AV} (h:MB k v=false):A7 (CX σ k p) v=A7 σ v:=by
 cases v with
 | row j t z o n=>simp only[MB]at h;simp only[A7,CJ p (E2.1 h)]
 | ptr j t a b=>simp only[MB]at h;simp only[A7,CJ p (E2.1 h)]
 | _=>rfl
theorem RI {k:Nat} {p:Nat->Nat × Nat} : ∀ {cs:List AV},G9 k cs=false->cs.map (A7 (CX σ k p))=cs.map (A7 σ)
 | [],_=>rfl
 | c::r,h=>by
  simp only[G9]at h;cases h1:MB k c<;>simp only[h1,cond_true,cond_false]at h
  ·rw[List.map_cons,List.map_cons,bV h1,RI h]
  ·cases h
theorem bT {k:Nat} {p:Nat->Nat × Nat} : ∀ {es:List (List AV)},H9 k es=false->(es.map λ cs=>cs.map (A7 (CX σ k p)))=es.map λ cs=>cs.map (A7 σ)
 | [],_=>rfl
 | c::r,h=>by
  simp only[H9]at h;cases h1:G9 k c<;>simp only[h1,cond_true,cond_false]at h
  ·rw[List.map_cons,List.map_cons,RI h1,bT h]
  ·cases h
theorem TR {k:Nat} {p:Nat->Nat × Nat} {v:AV} (h:NY k v=false):BO (CX σ k p) v=BO σ v:=by
 cases v with
 | agg cs=>simp only[NY]at h;simp only[BO,RI h]
 | fn p f g cs=>simp only[NY]at h;simp only[BO,RI h]
 | row a b c d e=>exact bV (v := .row a b c d e) h
 | ptr a b c d=>exact bV (v := .ptr a b c d) h
 | _=>rfl
theorem oI {k:Nat} {p:Nat->Nat × Nat} : ∀ {cs:List AV},RE k cs=false->cs.map (BO (CX σ k p))=cs.map (BO σ)
 | [],_=>rfl
 | c::r,h=>by
  simp only[RE]at h;cases h1:NY k c<;>simp only[h1,cond_true,cond_false]at h
  ·rw[List.map_cons,List.map_cons,TR h1,oI h]
  ·cases h
theorem WN {k:Nat} {p:Nat->Nat × Nat} {v:AV} (h:MC k v=false):BB (CX σ k p) v=BB σ v:=by
 cases v with
 | j5 cs=>simp only[MC]at h;simp only[BB,oI h]
 | agg cs=>exact TR (v := .agg cs) h
 | fn p f g cs=>exact TR (v := .fn p f g cs) h
 | row a b c d e=>exact TR (v := .row a b c d e) h
 | ptr a b c d=>exact TR (v := .ptr a b c d) h
 | _=>rfl
theorem RF {k:Nat} : ∀ {tm:Tm},HA k tm=false -> ∀ j,MC k (tg tm j)=false
 | [],_,_=>rfl
 | (i,v)::r,h,j=>by
  simp only[HA]at h;cases h1:MC k v<;>simp only[h1,cond_true,cond_false]at h
  ·simp only[tg]
   cases Nat.beq j i
   ·exact RF h j
   ·exact h1
  ·cases h
theorem M4 {k:Nat} : ∀ {M:Mem},F5 k M=false -> ∀ j s c,c7 M j=some (s,c)->j≠k/\GH k c=false
 | [],_,_,_,_,e=>by cases e
 | (i,s0,c0)::r,h,j,s,c,e=>by
  simp only[F5]at h;cases h0:Nat.beq k i<;>simp only[h0,cond_true,cond_false]at h
  ·cases h1:GH k c0<;>simp only[h1,cond_true,cond_false]at h
   ·simp only[c7]at e
    cases h2:Nat.beq j i<;>simp only[h2,cond_true,cond_false]at e
    ·exact M4 h j s c e
    ·simp only[Option.some.injEq,Prod.mk.injEq]at e
     obtain ⟨_,rfl⟩:=e;exact ⟨λ e=>E2.1 h0 (e.symm.trans (BD.1 h2)),h1⟩
   ·cases h
  ·cases h
theorem OR {σ σ':FA} {k:Nat} : ∀ (rows:List (Option (Nat × List (List AV)))) (i:Nat),(∀ j,i<=j->σ k (j+1)=σ' k (j+1))->BT σ k i rows=BT σ' k i rows
 | [],i,h=>rfl
 | none::r,i,h=>by rw[BT,BT,OR r (i+1) λ j hj=>h j (by omega)]
 | some (z,es)::r,i,h=>by rw[BT,BT,OR r (i+1) λ j hj=>h j (by omega),h i (by omega)]
theorem EZ {k:Nat} : ∀ (rows:List (Option (Nat × List (List AV)))) (i j:Nat),(BT σ k i rows)[j]? = (rows[j]?).map λ r=>match r with|none=>[.nil]|some (z,es)=>[.row (σ k (i+j+1)).1 (σ k (i+j+1)).2 z 0 es.length]
 | [],i,j=>by simp [BT]
 | none::r,i,0=>by simp [BT]
 | none::r,i,j+1=>by simp only[BT,List.getElem?_cons_succ,EZ r (i+1) j];rw[show i+1+j=i+(j+1) by omega]
 | some (z,es)::r,i,0=>by simp [BT]
 | some (z,es)::r,i,j+1=>by simp only[BT,List.getElem?_cons_succ,EZ r (i+1) j];rw[show i+1+j=i+(j+1) by omega]
theorem EO {k:Nat} : ∀ (rows:List (Option (Nat × List (List AV)))) (i:Nat),(BT σ k i rows).length=rows.length
 | [],i=>rfl
 | none::r,i=>by simp [BT,EO r]
 | some (z,es)::r,i=>by simp [BT,EO r]
theorem UR {k j:Nat} {f:Nat->Nat × Nat} {c:A3} (h:GH k c=false) (hj:j≠k):c.e8 (CX σ k f) j=c.e8 σ j:=by
 cases c with
 | bx cs=>simp only[GH]at h;simp only[A3.e8,RI h]
 | rw z es=>rfl
 | bs z es=>simp only[GH]at h;simp only[A3.e8,bT h]
 | mx rows=>simp only[A3.e8];rw[OR rows 0 λ i _=>by rw[CJ f hj]]
 | hx a v rows=>simp only[A3.e8];rw[OR rows 0 λ i _=>by rw[CJ f hj]]
 | vw w rows=>simp only[A3.e8];rw[OR rows 0 λ i _=>by rw[CJ f hj]]
theorem vL {v:AV} (h:nu v=true):A7 σ v=v:=by cases v<;>first|rfl|cases h
theorem H2 : ∀ {cs:List AV},DW cs=true->cs.map (A7 σ)=cs
 | [],_=>rfl
 | c::r,h=>by
  simp only[DW]at h;cases h1:nu c<;>simp only[h1,cond_true,cond_false]at h
  ·cases h
  ·rw[List.map_cons,vL h1,H2 h]
theorem vK {k:Nat} {v:AV} (h:nu v=true):MB k v=false:=by cases v<;>first|rfl|cases h
theorem XY {k:Nat} : ∀ {cs:List AV},DW cs=true->G9 k cs=false
 | [],_=>rfl
 | c::r,h=>by
  simp only[DW]at h;cases h1:nu c<;>simp only[h1,cond_true,cond_false]at h
  ·cases h
  ·simp only[G9,vK h1,XY h,cond_false]
theorem vI (v:AV):cv v = .any\/(cv v=v/\BB σ v=v):=by
 cases v with
 | agg cs =>
  simp only[cv];cases h:DW cs
  ·exact Or.inl rfl
  ·exact Or.inr ⟨rfl,by simp only[BB,BO,H2 h]⟩
 | j5 vs=>cases vs with
  | nil=>exact Or.inr ⟨rfl,rfl⟩
  | cons=>exact Or.inl rfl
 | fn p f g cs=>cases cs with
  | nil=>exact Or.inr ⟨rfl,rfl⟩
  | cons=>exact Or.inl rfl
 | _=>first|exact Or.inl rfl|exact Or.inr ⟨rfl,rfl⟩
theorem vF {k:Nat} (v:AV):MC k (cv v)=false:=by
 cases v with
 | agg cs =>
  simp only[cv];cases h:DW cs
  ·rfl
  ·exact XY h
 | j5 vs=>cases vs<;>rfl
 | fn p f g cs=>cases cs<;>rfl
 | _=>rfl
variable {tm:Tm} {M:Mem} {st:St}
theorem RX.ev (h:RX σ tm M st) {x:AM} {v:AV} (e:ex tm x=v) (hv:v ≠ .any):st.ev x=BB σ v:=by
 cases x with
 | t n =>
  simp only[ex]at e;rcases h.tm n with h|h
  ·exact absurd (e.symm.trans h) hv
  ·rw[e]at h;exact h
 | c u =>
  simp only[ex]at e;rcases vI (σ:=σ) u with h|⟨h,h'⟩
  ·exact absurd (e.symm.trans h) hv
  ·rw[<-e,h,h'];rfl
theorem jK {k:Nat} (h:HA k tm=false) (x:AM):MC k (ex tm x)=false:=by
 cases x with
 | t n=>exact RF h n
 | c u=>exact vF u
theorem nA {k:Nat} {v:AV} {cs:List AV} (h:MC k v=false) (e:cellsOf v=some cs):G9 k cs=false:=by
 cases v<;>simp only[cellsOf,Option.some.injEq,reduceCtorEq]at e<;>subst e<;>first|exact h|rfl|(simp only[MC,NY]at h;simp only[G9,h,cond_false])
theorem MP {v:AV} {cs:List AV} (e:cellsOf v=some cs):cellsOf (BB σ v)=some (cs.map (A7 σ)):=by
 cases v<;>simp only[cellsOf,Option.some.injEq,reduceCtorEq]at e<;>subst e<;>rfl
def A3.flat:A3->Prop
 | .mx rows => ∀ (i:Nat) (x:Nat × List (List AV)),rows[i]? = some (some x)->False
 | .hx _ _ _=>False
 | .vw _ _=>False
 | _=>True
theorem DY {M:Mem} {k s:Nat} {c:A3} (h:c7 M k=some (s,c)):c6 M k 0=some c:=by simp [c6,h]
theorem IL {M:Mem} {k t:Nat} {c:A3} (h:c6 M k t=some c) : ∃ s c0,c7 M k=some (s,c0)/\(t=0->c=c0)/\(∀ i,t=i+1 -> ∃ rows z es,((c0 = .mx rows \/ ∃ a v,c0 = .hx a v rows) \/ ∃ w,c0 = .vw w rows)/\rows[i]? = some (some (z,es))/\c = .rw z es):=by
 unfold c6 at h;cases hm:c7 M k with
 | none=>simp [hm]at h
 | some x =>
  obtain ⟨s,c0⟩:=x;simp only[hm]at h;refine ⟨s,c0,rfl,?_,?_⟩
  ·rintro rfl;exact (Option.some.inj h).symm
  ·rintro i rfl
   cases c0 with
   | mx rows =>
    simp only at h;cases hr:rows[i]? with
    | none=>simp [hr]at h
    | some r =>
     cases r with
     | none=>simp [hr]at h
     | some ze=>obtain ⟨z,es⟩:=ze;simp only[hr,Option.some.injEq]at h;exact ⟨rows,z,es,Or.inl (Or.inl rfl),hr,h.symm⟩
   | hx a v rows =>
    simp only at h;cases hr:rows[i]? with
    | none=>simp [hr]at h
    | some r =>
     cases r with
     | none=>simp [hr]at h
     | some ze=>obtain ⟨z,es⟩:=ze;simp only[hr,Option.some.injEq]at h;exact ⟨rows,z,es,Or.inl (Or.inr ⟨a,v,rfl⟩),hr,h.symm⟩
   | vw w rows =>
    simp only at h;cases hr:rows[i]? with
    | none=>simp [hr]at h
    | some r =>
     cases r with
     | none=>simp [hr]at h
     | some ze=>obtain ⟨z,es⟩:=ze;simp only[hr,Option.some.injEq]at h;exact ⟨rows,z,es,Or.inr ⟨w,rfl⟩,hr,h.symm⟩
   | _=>simp at h
theorem M3 {M:Mem} {k s:Nat} {c:A3} {j t:Nat} (h:j≠k):c6 ((k,s,c)::M) j t=c6 M j t:=by
 simp only[c6,c7,E2.2 h,cond_false]
theorem PW {M:Mem} {k s:Nat} {c:A3}:c6 ((k,s,c)::M) k 0=some c:=by simp [c6,c7]
theorem Q7 {M:Mem} {k s:Nat} {c:A3} (hc:c.flat) {t:Nat} {c':A3} (h:c6 ((k,s,c)::M) k t=some c'):t=0/\c'=c:=by
 cases t with
 | zero=>rw[PW]at h;exact ⟨rfl,(Option.some.inj h).symm⟩
 | succ i =>
  simp only[c6,c7,Nat.beq_refl,cond_true]at h;cases c with
  | mx rows =>
   simp only at h;split at h
   ·rename_i z es hr
    exact (hc i (z,es) hr).elim
   ·cases h
  | hx a v rows=>exact hc.elim
  | vw w rows=>exact hc.elim
  | _=>simp at h
theorem Qg {σ σ':FA} {k k':Nat} {rows:List (Option (Nat × List (List AV)))} (h:A3.flat (.mx rows)):BT σ k 0 rows=BT σ' k' 0 rows:=by
 apply List.ext_getElem?;intro j;rw[EZ,EZ];cases hr:rows[j]? with
 | none=>rfl
 | some r=>cases r with
  | none=>rfl
  | some x=>exact (h j x hr).elim
theorem RX.al (h:RX σ tm M st) {s q:Nat} (hm:F5 s M=false) (ht:HA s tm=false) (c:A3) (hf:c.flat) (hc:GH s c=false) (hl:c.iv=true->EC q=true) :
  RX (CX σ s λ_=>(q,st.own.g7 q)) tm ((s,q,c)::M) ⟨st.tm,st.own.put q ((st.own q).new (c.e8 σ s))⟩:=by
 have Fb : ∀ j t c',c6 M j t=some c'->((st.own.put q ((st.own q).new (c.e8 σ s))) (σ j t).1).e8 (σ j t).2=(st.own (σ j t).1).e8 (σ j t).2:=by
  intro j t c' e;by_cases hs:(σ j t).1=q
  ·have ho:=h.sat.old _ _ _ e
   rw[hs]at ho ⊢;simp only[AH.j4,BX.new];rw[if_neg (by omega)]
  ·rw[AH.cr _ _ _ _ hs]
 have uz : ∀ s',(st.own s').g7<=((st.own.put q ((st.own q).new (c.e8 σ s))) s').g7:=by
  intro s';by_cases hs:s'=q
  ·subst hs;simp only[AH.j4,BX.new];omega
  ·rw[AH.cr _ _ _ _ hs];exact Nat.le_refl _
 have k8 : ∀ j t c',j≠s->c6 ((s,q,c)::M) j t=some c'->c6 M j t=some c':=λ j t c' hj e=>by rwa [M3 hj]at e
 have vn : ∀ j t c',c6 M j t=some c'->GH s c'=false/\j≠s:=by
  intro j t c' e;obtain ⟨s1,c0,g1,g2,g3⟩:=IL e;obtain ⟨g4,g5⟩:=M4 hm _ _ _ g1;refine ⟨?_,g4⟩;cases t with
  | zero=>rw[g2 rfl];exact g5
  | succ i=>obtain ⟨rows,z,es,_,_,rfl⟩:=g3 i rfl;rfl
 refine ⟨λ j => ?_,⟨?_,?_,?_,?_,?_⟩⟩
 ·rw[WN (RF ht j)];exact h.tm j
 ·intro j s' c' e
  simp only[c7]at e;cases hb:Nat.beq j s<;>simp only[hb,cond_true,cond_false]at e
  ·rw[CJ _ (E2.1 hb)];exact h.sat.site _ _ _ e
  ·simp only[Option.some.injEq,Prod.mk.injEq]at e
   obtain ⟨rfl,rfl⟩:=e;rw[BD.1 hb,BP]
 ·intro j t c' e
  by_cases hj:j=s
  ·subst hj
   obtain ⟨rfl,rfl⟩:=Q7 hf e;have hb:c'.e8 (CX σ j λ_=>(q,st.own.g7 q)) j=c'.e8 σ j:=by
    cases c' with
    | bx cs=>simp only[GH]at hc;simp only[A3.e8,RI hc]
    | rw z es=>rfl
    | bs z es=>simp only[GH]at hc;simp only[A3.e8,bT hc]
    | mx rows=>exact congrArg (DJ.mk 1) (Qg hf)
    | hx a v rows=>exact hf.elim
    | vw w rows=>exact hf.elim
   rw[BP,hb];simp [AH.j4,BX.new,AH.g7]
  ·have e':=k8 j t c' hj e
   rw[CJ _ hj,UR (vn j t c' e').1 hj];exact (Fb j t c' e').trans (h.sat.e8 _ _ _ e')
 ·intro j t c' e
  by_cases hj:j=s
  ·subst hj
   rw[BP];simp [AH.j4,BX.new,AH.g7]
  ·have e':=k8 j t c' hj e
   rw[CJ _ hj];exact Nat.lt_of_lt_of_le (h.sat.old _ _ _ e') (uz _)
 ·have gy : ∀ j t c',c6 M j t=some c'->σ j t=(q,st.own.g7 q)->False:=by
   intro j t c' e hh;have h2:=h.sat.old _ _ _ e;rw[hh]at h2;exact absurd h2 (Nat.lt_irrefl _)
  intro j t j' t' c1 c2 e1 e2 hj;by_cases h1:j=s<;>by_cases h2:j'=s
  ·subst h1;subst h2
   exact ⟨rfl,(Q7 hf e1).1.trans (Q7 hf e2).1.symm⟩
  ·subst h1
   rw[BP,CJ _ h2]at hj;exact (gy _ _ _ (k8 _ _ _ h2 e2) hj.symm).elim
  ·subst h2
   rw[BP,CJ _ h1]at hj;exact (gy _ _ _ (k8 _ _ _ h1 e1) hj).elim
  ·rw[CJ _ h1,CJ _ h2]at hj
   exact h.sat.inj _ _ _ _ _ _ (k8 _ _ _ h1 e1) (k8 _ _ _ h2 e2) hj
 ·intro j t c' e hw
  by_cases hj:j=s
  ·subst hj
   obtain ⟨rfl,rfl⟩:=Q7 hf e;rw[BP];exact hl hw
  ·rw[CJ _ hj];exact h.sat.low _ _ _ (k8 j t c' hj e) hw
theorem M0 {k j:Nat} {x:Nat × A3} : ∀ {M:Mem},c7 (n0 k M) j=some x->j≠k/\c7 M j=some x
 | [],e=>by cases e
 | (i,s,c)::r,e=>by
  simp only[n0]at e;cases hb:Nat.beq k i<;>simp only[hb,cond_true,cond_false]at e
  ·simp only[c7]at e ⊢
   cases hj:Nat.beq j i<;>simp only[hj,cond_true,cond_false]at e ⊢
   ·exact M0 e
   ·exact ⟨λ e'=>E2.1 hb (e'.symm.trans (BD.1 hj)),e⟩
  ·obtain ⟨h1,h2⟩:=M0 e
   refine ⟨h1,?_⟩;simp only[c7];rw[E2.2 (λ e'=>h1 (e'.trans (BD.1 hb).symm))];exact h2
theorem P1 {own:AH} {p:Nat × Nat} {x:Option DJ} {q:Nat × Nat} (h:q≠p):((own.put p.1 ((own p.1).m7 p.2 x)) q.1).e8 q.2=(own q.1).e8 q.2:=by
 by_cases hs:q.1=p.1
 ·rw[hs,AH.j4]
  simp only[BX.m7];rw[if_neg (λ e=>h (Prod.ext hs e))]
 ·rw[AH.cr _ _ _ _ hs]
theorem V2 {own:AH} {p:Nat × Nat} {x:Option DJ}:((own.put p.1 ((own p.1).m7 p.2 x)) p.1).e8 p.2=x:=by simp [AH.j4,BX.m7]
theorem TF {own:AH} {p:Nat × Nat} {x:Option DJ} (s:Nat):((own.put p.1 ((own p.1).m7 p.2 x)) s).g7=(own s).g7:=by
 by_cases hs:s=p.1
 ·subst hs;rw[AH.j4];rfl
 ·rw[AH.cr _ _ _ _ hs]
theorem RX.Cv (h:RX σ tm M st) {k s:Nat} {c:A3} (e:c7 M k=some (s,c)) (hf:c.flat) (c':A3) (ic:c'.flat) (Uz:c'.iv=true->c.iv=true) :
  RX σ tm ((k,s,c')::M) ⟨st.tm,st.own.put s ((st.own s).m7 (σ k 0).2 (some (c'.e8 σ k)))⟩:=by
 have hs:=h.sat.site _ _ _ e;subst hs;have e0:=DY e;have hg : ∀ j t c1,c6 ((k,(σ k 0).1,c')::M) j t=some c1->(j=k/\t=0/\c1=c')\/(j≠k/\c6 M j t=some c1):=by
  intro j t c1 e1;by_cases hj:j=k
  ·subst hj
   obtain ⟨rfl,rfl⟩:=Q7 ic e1;exact Or.inl ⟨rfl,rfl,rfl⟩
  ·rw[M3 hj]at e1
   exact Or.inr ⟨hj,e1⟩
 have lg : ∀ j t c1,c6 ((k,(σ k 0).1,c')::M) j t=some c1 -> ∃ c2,c6 M j t=some c2:=by
  intro j t c1 e1;rcases hg j t c1 e1 with ⟨rfl,rfl,rfl⟩|⟨_,h2⟩
  ·exact ⟨c,e0⟩
  ·exact ⟨c1,h2⟩
 refine ⟨h.tm,⟨?_,?_,?_,?_,?_⟩⟩
 ·intro j s' c1 e1
  simp only[c7]at e1;cases hb:Nat.beq j k<;>simp only[hb,cond_true,cond_false]at e1
  ·exact h.sat.site _ _ _ e1
  ·simp only[Option.some.injEq,Prod.mk.injEq]at e1
   rw[BD.1 hb];exact e1.1
 ·intro j t c1 e1
  rcases hg j t c1 e1 with ⟨rfl,rfl,rfl⟩|⟨h1,h2⟩
  ·exact V2
  ·refine (P1 (λ he => ?_)).trans (h.sat.e8 _ _ _ h2)
   exact h1 (h.sat.inj _ _ _ _ _ _ h2 e0 he).1
 ·intro j t c1 e1
  obtain ⟨c2,e2⟩:=lg _ _ _ e1;show (σ j t).2<((st.own.put (σ k 0).1 ((st.own (σ k 0).1).m7 (σ k 0).2 (some (c'.e8 σ k)))) (σ j t).1).g7;rw[TF];exact h.sat.old _ _ _ e2
 ·intro j t j' t' c1 c2 e1 e2 hj
  obtain ⟨_,yk⟩:=lg _ _ _ e1;obtain ⟨_,uf⟩:=lg _ _ _ e2;exact h.sat.inj _ _ _ _ _ _ yk uf hj
 ·intro j t c1 e1 hw
  rcases hg j t c1 e1 with ⟨rfl,rfl,rfl⟩|⟨_,h2⟩
  ·exact h.sat.low _ _ _ e0 (Uz hw)
  ·exact h.sat.low _ _ _ h2 hw
theorem Mg {k t:Nat} {c:A3} (h:c6 M k (t+1)=some c):c.iv=true:=by
 obtain ⟨_,_,_,_,g3⟩:=IL h;obtain ⟨_,_,_,_,_,rfl⟩:=g3 t rfl;rfl
theorem JZ {k j t:Nat} {c:A3} (h:c6 (n0 k M) j t=some c):j≠k/\c6 M j t=some c:=by
 obtain ⟨s,c0,g1,_⟩:=IL h;obtain ⟨h1,h2⟩:=M0 g1;refine ⟨h1,?_⟩;unfold c6 at h ⊢;rw[g1]at h;rw[h2];exact h
theorem RX.kill (h:RX σ tm M st) {k s:Nat} {c:A3} (e:c7 M k=some (s,c)) :
  RX σ tm (n0 k M) ⟨st.tm,st.own.put s ((st.own s).m7 (σ k 0).2 none)⟩:=by
 have hs:=h.sat.site _ _ _ e;subst hs;have e0:=DY e;refine ⟨h.tm,⟨?_,?_,?_,?_,?_⟩⟩
 ·intro j s' c1 e1
  exact h.sat.site _ _ _ (M0 e1).2
 ·intro j t c1 e1
  obtain ⟨hj,e1⟩:=JZ e1;refine (P1 (λ he => ?_)).trans (h.sat.e8 _ _ _ e1);exact hj (h.sat.inj _ _ _ _ _ _ e1 e0 he).1
 ·intro j t c1 e1
  obtain ⟨hj,e1⟩:=JZ e1;show (σ j t).2<((st.own.put (σ k 0).1 ((st.own (σ k 0).1).m7 (σ k 0).2 none)) (σ j t).1).g7;rw[TF];exact h.sat.old _ _ _ e1
 ·intro j t j' t' c1 c2 e1 e2 hj
  exact h.sat.inj _ _ _ _ _ _ (JZ e1).2 (JZ e2).2 hj
 ·intro j t c1 e1 hw
  exact h.sat.low _ _ _ (JZ e1).2 hw
theorem RX.Gl (h:RX σ tm M st) {k s i z:Nat} {rows:List (Option (Nat × List (List AV)))} {es es':List (List AV)} (e:c7 M k=some (s,.mx rows)) (hr:rows[i]? = some (some (z,es))) (hl:es'.length=es.length) :
  RX σ tm ((k,s,.mx (rows.set i (some (z,es'))))::M) ⟨st.tm,st.own.put (σ k (i+1)).1 ((st.own (σ k (i+1)).1).m7 (σ k (i+1)).2 (some ⟨z,es'⟩))⟩:=by
 have e1:c6 M k (i+1)=some (.rw z es):=by simp [c6,e,hr]
 have hi:i<rows.length:=(zS hr).1;have gb:BT σ k 0 (rows.set i (some (z,es')))=BT σ k 0 rows:=by
  apply List.ext_getElem?;intro j;rw[EZ,EZ];by_cases hj:i=j
  ·subst hj;rw[List.getElem?_set_self hi,hr];simp [hl]
  ·rw[List.getElem?_set_ne hj]
 have hg : ∀ j t c1,c6 ((k,s,.mx (rows.set i (some (z,es'))))::M) j t=some c1->(j=k/\t=i+1/\c1 = .rw z es')\/(¬ (j=k/\t=i+1) /\ ∃ c2,c6 M j t=some c2/\c2.e8 σ j=c1.e8 σ j):=by
  intro j t c1 g;by_cases hj:j=k
  ·subst hj
   cases t with
   | zero =>
    rw[PW]at g;obtain rfl:=Option.some.inj g;exact Or.inr ⟨by omega,_,DY e,by simp only[A3.e8,gb]⟩
   | succ t =>
    simp only[c6,c7,Nat.beq_refl,cond_true]at g;by_cases tp:i=t
    ·subst tp
     rw[List.getElem?_set_self hi]at g;exact Or.inl ⟨rfl,rfl,(Option.some.inj g).symm⟩
    ·rw[List.getElem?_set_ne tp]at g
     refine Or.inr ⟨by omega,c1,?_,rfl⟩;simp only[c6,e];exact g
  ·rw[M3 hj]at g
   exact Or.inr ⟨by omega,c1,g,rfl⟩
 have lg : ∀ j t c1,c6 ((k,s,.mx (rows.set i (some (z,es'))))::M) j t=some c1 -> ∃ c2,c6 M j t=some c2:=by
  intro j t c1 g;rcases hg j t c1 g with ⟨rfl,rfl,rfl⟩|⟨_,c2,h2,_⟩
  ·exact ⟨_,e1⟩
  ·exact ⟨c2,h2⟩
 refine ⟨h.tm,⟨?_,?_,?_,?_,?_⟩⟩
 ·intro j s' c1 g
  simp only[c7]at g;cases hb:Nat.beq j k<;>simp only[hb,cond_true,cond_false]at g
  ·exact h.sat.site _ _ _ g
  ·simp only[Option.some.injEq,Prod.mk.injEq]at g
   rw[BD.1 hb,<-g.1];exact h.sat.site _ _ _ e
 ·intro j t c1 g
  rcases hg j t c1 g with ⟨rfl,rfl,rfl⟩|⟨h1,c2,h2,h3⟩
  ·exact V2
  ·rw[<-h3]
   refine (P1 (λ he => ?_)).trans (h.sat.e8 _ _ _ h2);exact h1 (h.sat.inj _ _ _ _ _ _ h2 e1 he)
 ·intro j t c1 g
  obtain ⟨c2,e2⟩:=lg _ _ _ g;show (σ j t).2<((st.own.put (σ k (i+1)).1 ((st.own (σ k (i+1)).1).m7 (σ k (i+1)).2 (some ⟨z,es'⟩))) (σ j t).1).g7;rw[TF];exact h.sat.old _ _ _ e2
 ·intro j t j' t' c1 c2 g1 g2 hj
  obtain ⟨_,yk⟩:=lg _ _ _ g1;obtain ⟨_,uf⟩:=lg _ _ _ g2;exact h.sat.inj _ _ _ _ _ _ yk uf hj
 ·intro j t c1 g hw
  obtain ⟨c2,e2⟩:=lg _ _ _ g;cases t with
  | zero =>
   by_cases hj:j=k
   ·subst hj;exact h.sat.low _ _ _ (DY e) rfl
   ·rw[M3 hj]at g;exact h.sat.low _ _ _ g hw
  | succ t=>exact h.sat.low _ _ _ e2 (Mg e2)
section
variable {k:Nat} {f:Nat->Nat × Nat}
theorem bU {v:AV} (hf:f 0=σ k 0) (h:NG k v=false):A7 (CX σ k f) v=A7 σ v:=by
 cases v with
 | row j t z o n =>
  simp only[NG]at h;cases hb:Nat.beq j k
  ·simp only[A7,CJ f (E2.1 hb)]
  ·obtain rfl:=BD.1 hb
   simp only[hb,cond_true]at h;cases t with
   | zero=>simp only[A7,BP,hf]
   | succ t=>cases h
 | ptr j t a b =>
  simp only[NG]at h;cases hb:Nat.beq j k
  ·simp only[A7,CJ f (E2.1 hb)]
  ·obtain rfl:=BD.1 hb
   simp only[hb,cond_true]at h;cases t with
   | zero=>simp only[A7,BP,hf]
   | succ t=>cases h
 | _=>rfl
theorem TP (hf:f 0=σ k 0) : ∀ {cs:List AV},MQ k cs=false->cs.map (A7 (CX σ k f))=cs.map (A7 σ)
 | [],_=>rfl
 | c::r,h=>by
  simp only[MQ]at h;cases h1:NG k c<;>simp only[h1,cond_true,cond_false]at h
  ·rw[List.map_cons,List.map_cons,bU hf h1,TP hf h]
  ·cases h
theorem oG (hf:f 0=σ k 0) : ∀ {es:List (List AV)},QN k es=false->(es.map λ cs=>cs.map (A7 (CX σ k f)))=es.map λ cs=>cs.map (A7 σ)
 | [],_=>rfl
 | c::r,h=>by
  simp only[QN]at h;cases h1:MQ k c<;>simp only[h1,cond_true,cond_false]at h
  ·rw[List.map_cons,List.map_cons,TP hf h1,oG hf h]
  ·cases h
theorem TQ {v:AV} (hf:f 0=σ k 0) (h:PF k v=false):BO (CX σ k f) v=BO σ v:=by
 cases v with
 | agg cs=>simp only[PF]at h;simp only[BO,TP hf h]
 | fn p f g cs=>simp only[PF]at h;simp only[BO,TP hf h]
 | row a b c d e=>exact bU (v := .row a b c d e) hf h
 | ptr a b c d=>exact bU (v := .ptr a b c d) hf h
 | _=>rfl
theorem oH (hf:f 0=σ k 0) : ∀ {cs:List AV},QM k cs=false->cs.map (BO (CX σ k f))=cs.map (BO σ)
 | [],_=>rfl
 | c::r,h=>by
  simp only[QM]at h;cases h1:PF k c<;>simp only[h1,cond_true,cond_false]at h
  ·rw[List.map_cons,List.map_cons,TQ hf h1,oH hf h]
  ·cases h
theorem Si {v:AV} (hf:f 0=σ k 0) (h:OG k v=false):BB (CX σ k f) v=BB σ v:=by
 cases v with
 | j5 cs=>simp only[OG]at h;simp only[BB,oH hf h]
 | agg cs=>exact TQ (v := .agg cs) hf h
 | fn p f g cs=>exact TQ (v := .fn p f g cs) hf h
 | row a b c d e=>exact TQ (v := .row a b c d e) hf h
 | ptr a b c d=>exact TQ (v := .ptr a b c d) hf h
 | _=>rfl
theorem eH : ∀ {tm:Tm},MR k tm=false -> ∀ j,OG k (tg tm j)=false
 | [],_,_=>rfl
 | (i,v)::r,h,j=>by
  simp only[MR]at h;cases h1:OG k v<;>simp only[h1,cond_true,cond_false]at h
  ·simp only[tg]
   cases Nat.beq j i
   ·exact eH h j
   ·exact h1
  ·cases h
theorem eC : ∀ {M:Mem},I4 k M=false -> ∀ j s c,c7 M j=some (s,c)->NH k c=false
 | [],_,_,_,_,e=>by cases e
 | (i,s0,c0)::r,h,j,s,c,e=>by
  simp only[I4]at h;cases h1:NH k c0<;>simp only[h1,cond_true,cond_false]at h
  ·simp only[c7]at e
   cases h2:Nat.beq j i<;>simp only[h2,cond_true,cond_false]at e
   ·exact eC h j s c e
   ·simp only[Option.some.injEq,Prod.mk.injEq]at e
    obtain ⟨_,rfl⟩:=e;exact h1
  ·cases h
theorem tV {c:A3} {j:Nat} (hf:f 0=σ k 0) (h:NH k c=false) (hj:j≠k):c.e8 (CX σ k f) j=c.e8 σ j:=by
 cases c with
 | bx cs=>simp only[NH]at h;simp only[A3.e8,TP hf h]
 | rw z es=>rfl
 | bs z es=>simp only[NH]at h;simp only[A3.e8,oG hf h]
 | mx rows=>simp only[A3.e8];rw[OR rows 0 λ i _=>by rw[CJ f hj]]
 | hx a v rows=>simp only[A3.e8];rw[OR rows 0 λ i _=>by rw[CJ f hj]]
 | vw w rows=>simp only[A3.e8];rw[OR rows 0 λ i _=>by rw[CJ f hj]]
end
theorem RX.vu (h:RX σ tm M st) {k k2 s s2 i z:Nat} {rows:List (Option (Nat × List (List AV)))} {es:List (List AV)} {c0:A3} (e:c7 M k=some (s,c0)) (cj:c0 = .mx rows \/ ∃ v,c0 = .hx i v rows) (e2:c7 M k2=some (s2,.rw z es)) (hk:k≠k2) (aj:MR k tm=false) (oh:I4 k M=false) (hi:i<rows.length) :
  RX (CX σ k λ t=>if t=i+1 then σ k2 0 else σ k t) tm ((k,s,.mx (rows.set i (some (z,es))))::n0 k2 M) ⟨st.tm,st.own.put s ((st.own s).m7 (σ k 0).2 (some ⟨1,(BT σ k 0 rows).set i [.row (σ k2 0).1 (σ k2 0).2 z 0 es.length]⟩))⟩:=by
 have hs:=h.sat.site _ _ _ e;subst hs;have r0:=DY e;have r2:=DY e2;have f0:(λ t=>if t=i+1 then σ k2 0 else σ k t) 0=σ k 0:=by simp
 have gb:BT (CX σ k λ t=>if t=i+1 then σ k2 0 else σ k t) k 0 (rows.set i (some (z,es)))=(BT σ k 0 rows).set i [.row (σ k2 0).1 (σ k2 0).2 z 0 es.length]:=by
  apply List.ext_getElem?;intro j;rw[EZ,BP];by_cases hj:i=j
  ·subst hj
   rw[List.getElem?_set_self hi,List.getElem?_set_self (by rw[EO];exact hi)];simp
  ·rw[List.getElem?_set_ne hj,List.getElem?_set_ne hj,EZ]
   congr 1;funext r
   cases r with
   | none=>rfl
   | some x=>simp only[Nat.zero_add];rw[if_neg (by omega)]
 have hg : ∀ j t c,c6 ((k,(σ k 0).1,.mx (rows.set i (some (z,es))))::n0 k2 M) j t=some c ->
   (j=k/\t=0/\c = .mx (rows.set i (some (z,es))))\/(j=k/\t=i+1/\c = .rw z es)\/(j=k/\t≠0/\t≠i+1/\c6 M k t=some c)\/(j≠k/\j≠k2/\c6 M j t=some c):=by
  intro j t c g;by_cases hj:j=k
  ·subst hj
   cases t with
   | zero=>rw[PW]at g;exact Or.inl ⟨rfl,rfl,(Option.some.inj g).symm⟩
   | succ t =>
    simp only[c6,c7,Nat.beq_refl,cond_true]at g;by_cases tp:i=t
    ·subst tp
     rw[List.getElem?_set_self hi]at g;exact Or.inr (Or.inl ⟨rfl,rfl,(Option.some.inj g).symm⟩)
    ·rw[List.getElem?_set_ne tp]at g
     refine Or.inr (Or.inr (Or.inl ⟨rfl,by omega,by omega,?_⟩));rcases cj with rfl|⟨v,rfl⟩
     ·simp only[c6,e]
      exact g
     ·simp only[c6,e]
      exact g
  ·rw[M3 hj]at g
   obtain ⟨g1,g2⟩:=JZ g;exact Or.inr (Or.inr (Or.inr ⟨hj,g1,g2⟩))
 have Ul : ∀ j t c,c6 M j t=some c->NH k c=false:=by
  intro j t c g;obtain ⟨s1,c0,g1,g2,g3⟩:=IL g;cases t with
  | zero=>rw[g2 rfl];exact eC oh _ _ _ g1
  | succ t=>obtain ⟨_,_,_,_,_,rfl⟩:=g3 t rfl;rfl
 refine ⟨λ j => ?_,⟨?_,?_,?_,?_,?_⟩⟩
 ·rw[Si (f:=λ t=>if t=i+1 then σ k2 0 else σ k t) f0 (eH aj j)];exact h.tm j
 ·intro j s' c g
  simp only[c7]at g;cases hb:Nat.beq j k<;>simp only[hb,cond_true,cond_false]at g
  ·rw[CJ _ (E2.1 hb)];exact h.sat.site _ _ _ (M0 g).2
  ·simp only[Option.some.injEq,Prod.mk.injEq]at g
   rw[BD.1 hb,BP,<-g.1];simp
 ·intro j t c g
  rcases hg j t c g with ⟨rfl,rfl,rfl⟩|⟨rfl,rfl,rfl⟩|⟨rfl,h0,h1,g2⟩|⟨h0,h1,g2⟩
  ·rw[BP]
   simp only[A3.e8,gb];exact V2
  ·rw[BP]
   simp only[if_true];exact (P1 (λ he=>hk (h.sat.inj _ _ _ _ _ _ r2 r0 he).1.symm)).trans (h.sat.e8 _ _ _ r2)
  ·rw[BP]
   simp only[h1,if_false];have hb:c.e8 (CX σ j λ t=>if t=i+1 then σ k2 0 else σ j t) j=c.e8 σ j:=by
    obtain ⟨_,_,_,_,g3⟩:=IL g2;obtain ⟨t',rfl⟩ : ∃ t',t=t'+1:=⟨t-1,by omega⟩;obtain ⟨_,_,_,_,_,rfl⟩:=g3 t' rfl;rfl
   rw[hb];exact (P1 (λ he=>h0 (h.sat.inj _ _ _ _ _ _ g2 r0 he).2)).trans (h.sat.e8 _ _ _ g2)
  ·rw[CJ _ h0,tV (f:=λ t=>if t=i+1 then σ k2 0 else σ k t) f0 (Ul _ _ _ g2) h0]
   exact (P1 (λ he=>h0 (h.sat.inj _ _ _ _ _ _ g2 r0 he).1)).trans (h.sat.e8 _ _ _ g2)
 ·intro j t c g
  rw[TF];rcases hg j t c g with ⟨rfl,rfl,rfl⟩|⟨rfl,rfl,rfl⟩|⟨rfl,h0,h1,g2⟩|⟨h0,h1,g2⟩
  ·rw[BP];simpa using h.sat.old _ _ _ r0
  ·rw[BP];simpa using h.sat.old _ _ _ r2
  ·rw[BP];simp only[h1,if_false];exact h.sat.old _ _ _ g2
  ·rw[CJ _ h0];exact h.sat.old _ _ _ g2
 ·-- each name is that of xy in the old memory
  have hold : ∀ j t c,c6 ((k,(σ k 0).1,.mx (rows.set i (some (z,es))))::n0 k2 M) j t=some c -> ∃ j0 t0 c0,c6 M j0 t0=some c0/\(CX σ k λ t=>if t=i+1 then σ k2 0 else σ k t) j t=σ j0 t0/\((j0=k2/\t0=0/\j=k/\t=i+1)\/(j0=j/\t0=t/\j≠k2)):=by
   intro j t c g;rcases hg j t c g with ⟨rfl,rfl,rfl⟩|⟨rfl,rfl,rfl⟩|⟨rfl,h0,h1,g2⟩|⟨h0,h1,g2⟩
   ·exact ⟨_,_,_,r0,by rw[BP];simp,Or.inr ⟨rfl,rfl,hk⟩⟩
   ·exact ⟨_,_,_,r2,by rw[BP];simp,Or.inl ⟨rfl,rfl,rfl,rfl⟩⟩
   ·exact ⟨_,_,_,g2,by rw[BP];simp [h1],Or.inr ⟨rfl,rfl,hk⟩⟩
   ·exact ⟨_,_,_,g2,by rw[CJ _ h0],Or.inr ⟨rfl,rfl,h1⟩⟩
  intro j t j' t' c c' g g' hj;obtain ⟨j0,t0,c0,a1,a2,a3⟩:=hold j t c g;obtain ⟨j1,t1,c1,b1,b2,b3⟩:=hold j' t' c' g';rw[a2,b2]at hj;obtain ⟨q1,q2⟩:=h.sat.inj _ _ _ _ _ _ a1 b1 hj;rcases a3 with ⟨x1,x2,x3,x4⟩|⟨x1,x2,x3⟩<;>rcases b3 with ⟨y1,y2,y3,y4⟩|⟨y1,y2,y3⟩
  ·exact ⟨x3.trans y3.symm,x4.trans y4.symm⟩
  ·exact absurd (y1.symm.trans (q1.symm.trans x1)) y3
  ·exact absurd (x1.symm.trans (q1.trans y1)) x3
  ·exact ⟨x1.symm.trans (q1.trans y1),x2.symm.trans (q2.trans y2)⟩
 ·intro j t c g hw
  rcases hg j t c g with ⟨rfl,rfl,rfl⟩|⟨rfl,rfl,rfl⟩|⟨rfl,h0,h1,g2⟩|⟨h0,h1,g2⟩
  ·rw[BP];simpa using h.sat.low _ _ _ r0 (by rcases cj with rfl|⟨v,rfl⟩<;>rfl)
  ·rw[BP];simpa using h.sat.low _ _ _ r2 rfl
  ·rw[BP];simp only[h1,if_false];exact h.sat.low _ _ _ g2 hw
  ·rw[CJ _ h0];exact h.sat.low _ _ _ g2 hw
theorem PS {own:AH} {q t:Nat} {b:DJ} {p:Nat × Nat} (h:p≠(q,t)) (ho:p.2<(own p.1).g7):((own.put q (((own q).m7 t none).new b)) p.1).e8 p.2=(own p.1).e8 p.2:=by
 by_cases hs:p.1=q
 ·rw[hs]at ho ⊢
  rw[AH.j4];simp only[BX.new,BX.m7];have h1 : ¬ p.2=(own q).g7:=by omega
  have h2 : ¬ p.2=t:=λ e=>h (Prod.ext hs e)
  simp only[h1,h2,if_false]
 ·rw[AH.cr _ _ _ _ hs]
theorem PT {own:AH} {q t:Nat} {b:DJ} (s:Nat):(own s).g7<=((own.put q (((own q).m7 t none).new b)) s).g7:=by
 by_cases hs:s=q
 ·subst hs;rw[AH.j4];simp only[BX.new,BX.m7];omega
 ·rw[AH.cr _ _ _ _ hs];exact Nat.le_refl _
theorem RX.Cy (h:RX σ tm M st) {s key sk i z:Nat} {rows:List (Option (Nat × List (List AV)))} {es es':List (List AV)} (e:c7 M key=some (sk,.mx rows)) (hr:rows[i]? = some (some (z,es))) (hm:F5 s M=false) (ht:HA s tm=false) :
  RX (CX σ s λ_=>((σ key (i+1)).1,st.own.g7 (σ key (i+1)).1)) tm ((s,(σ key (i+1)).1,.rw z es')::(key,sk,.hx i (.row (σ key (i+1)).1 (σ key (i+1)).2 z 0 es.length) (rows.set i none))::n0 key M)
   ⟨st.tm,st.own.put (σ key (i+1)).1 (((st.own (σ key (i+1)).1).m7 (σ key (i+1)).2 none).new ⟨z,es'⟩)⟩:=by
 have r0:=DY e;have e1:c6 M key (i+1)=some (.rw z es):=by simp [c6,e,hr]
 have hi:i<rows.length:=(zS hr).1;have zt:key≠s:=(M4 hm _ _ _ e).1;have gb:(BT (CX σ s λ_=>((σ key (i+1)).1,st.own.g7 (σ key (i+1)).1)) key 0 (rows.set i none)).set i [.row (σ key (i+1)).1 (σ key (i+1)).2 z 0 es.length]=BT σ key 0 rows:=by
  apply List.ext_getElem?;intro j;by_cases hj:i=j
  ·subst hj
   rw[List.getElem?_set_self (by rw[EO,List.length_set];exact hi),EZ,hr];simp
  ·rw[List.getElem?_set_ne hj,EZ,EZ,List.getElem?_set_ne hj,CJ _ zt]
 have vn : ∀ j t c',c6 M j t=some c'->GH s c'=false/\j≠s:=by
  intro j t c' g;obtain ⟨s1,c0,g1,g2,g3⟩:=IL g;obtain ⟨g4,g5⟩:=M4 hm _ _ _ g1;refine ⟨?_,g4⟩;cases t with
  | zero=>rw[g2 rfl];exact g5
  | succ i=>obtain ⟨rows,z,es,_,_,rfl⟩:=g3 i rfl;rfl
 have hg : ∀ j t c,c6 ((s,(σ key (i+1)).1,.rw z es')::(key,sk,.hx i (.row (σ key (i+1)).1 (σ key (i+1)).2 z 0 es.length) (rows.set i none))::n0 key M) j t=some c ->
   (j=s/\t=0/\c = .rw z es')\/(j=key/\t=0/\c = .hx i (.row (σ key (i+1)).1 (σ key (i+1)).2 z 0 es.length) (rows.set i none))\/(j≠s /\ ¬ (j=key/\t=0) /\ ¬ (j=key/\t=i+1)/\(j=key -> ∃ z es,c = .rw z es)/\c6 M j t=some c):=by
  intro j t c g;by_cases hj:j=s
  ·subst hj
   obtain ⟨rfl,rfl⟩:=Q7 (c := .rw z es') trivial g;exact Or.inl ⟨rfl,rfl,rfl⟩
  ·rw[M3 hj]at g
   by_cases hk:j=key
   ·subst hk
    cases t with
    | zero=>rw[PW]at g;exact Or.inr (Or.inl ⟨rfl,rfl,(Option.some.inj g).symm⟩)
    | succ t =>
     simp only[c6,c7,Nat.beq_refl,cond_true]at g;by_cases tp:i=t
     ·subst tp
      rw[List.getElem?_set_self hi]at g;cases g
     ·rw[List.getElem?_set_ne tp]at g
      refine Or.inr (Or.inr ⟨hj,by omega,by omega,λ_ => ?_,?_⟩)
      ·split at g
       ·exact ⟨_,_,(Option.some.inj g).symm⟩
       ·cases g
      ·simp only[c6,e]
       exact g
   ·rw[M3 hk]at g
    obtain ⟨g1,g2⟩:=JZ g;exact Or.inr (Or.inr ⟨hj,by omega,by omega,λ h=>absurd h hk,g2⟩)
 refine ⟨λ j => ?_,⟨?_,?_,?_,?_,?_⟩⟩
 ·rw[WN (RF ht j)];exact h.tm j
 ·intro j s1 c g
  simp only[c7]at g;cases hb:Nat.beq j s<;>simp only[hb,cond_true,cond_false]at g
  ·rw[CJ _ (E2.1 hb)]
   cases o7:Nat.beq j key<;>simp only[o7,cond_true,cond_false]at g
   ·exact h.sat.site _ _ _ (M0 g).2
   ·simp only[Option.some.injEq,Prod.mk.injEq]at g
    rw[BD.1 o7,<-g.1];exact h.sat.site _ _ _ e
  ·simp only[Option.some.injEq,Prod.mk.injEq]at g
   rw[BD.1 hb,BP,<-g.1]
 ·intro j t c g
  rcases hg j t c g with ⟨rfl,rfl,rfl⟩|⟨rfl,rfl,rfl⟩|⟨h0,h1,h2,h3,g2⟩
  ·rw[BP]
   simp [AH.j4,BX.new,AH.g7,BX.m7,A3.e8]
  ·rw[CJ _ zt]
   simp only[A3.e8,gb];exact (PS (λ he=>absurd (h.sat.inj _ _ _ _ _ _ r0 e1 he).2 (by omega)) (h.sat.old _ _ _ r0)).trans (h.sat.e8 _ _ _ r0)
  ·rw[CJ _ h0,UR (vn _ _ _ g2).1 h0]
   exact (PS (λ he=>h2 (h.sat.inj _ _ _ _ _ _ g2 e1 he)) (h.sat.old _ _ _ g2)).trans (h.sat.e8 _ _ _ g2)
 ·intro j t c g
  rcases hg j t c g with ⟨rfl,rfl,rfl⟩|⟨rfl,rfl,rfl⟩|⟨h0,h1,h2,h3,g2⟩
  ·rw[BP]
   simp [AH.j4,BX.new,AH.g7,BX.m7]
  ·rw[CJ _ zt]
   exact Nat.lt_of_lt_of_le (h.sat.old _ _ _ r0) (PT _)
  ·rw[CJ _ h0]
   exact Nat.lt_of_lt_of_le (h.sat.old _ _ _ g2) (PT _)
 ·have hold : ∀ j t c,c6 ((s,(σ key (i+1)).1,.rw z es')::(key,sk,.hx i (.row (σ key (i+1)).1 (σ key (i+1)).2 z 0 es.length) (rows.set i none))::n0 key M) j t=some c->(j=s/\t=0)\/(j≠s /\ ∃ c0,c6 M j t=some c0):=by
   intro j t c g;rcases hg j t c g with ⟨rfl,rfl,rfl⟩|⟨rfl,rfl,rfl⟩|⟨h0,h1,h2,h3,g2⟩
   ·exact Or.inl ⟨rfl,rfl⟩
   ·exact Or.inr ⟨zt,_,r0⟩
   ·exact Or.inr ⟨h0,_,g2⟩
  have iw : ∀ j0 t0 c0,c6 M j0 t0=some c0->((σ key (i+1)).1,st.own.g7 (σ key (i+1)).1)≠σ j0 t0:=by
   intro j0 t0 c0 g he;have:=h.sat.old _ _ _ g
   rw[<-he]at this;exact absurd this (Nat.lt_irrefl _)
  intro j t j' t' c c' g g' hj;rcases hold j t c g with ⟨rfl,rfl⟩|⟨a1,c1,a2⟩<;>rcases hold j' t' c' g' with ⟨rfl,rfl⟩|⟨b1,c2,b2⟩
  ·exact ⟨rfl,rfl⟩
  ·rw[BP,CJ _ b1]at hj;exact absurd hj (iw _ _ _ b2)
  ·rw[BP,CJ _ a1]at hj;exact absurd hj.symm (iw _ _ _ a2)
  ·rw[CJ _ a1,CJ _ b1]at hj
   exact h.sat.inj _ _ _ _ _ _ a2 b2 hj
 ·intro j t c g hw
  rcases hg j t c g with ⟨rfl,rfl,rfl⟩|⟨rfl,rfl,rfl⟩|⟨h0,h1,h2,h3,g2⟩
  ·rw[BP];exact h.sat.low _ _ _ e1 rfl
  ·rw[CJ _ zt];exact h.sat.low _ _ _ r0 rfl
  ·rw[CJ _ h0];exact h.sat.low _ _ _ g2 hw
theorem RX.view (h:RX σ tm M st) {k s:Nat} {c0:A3} {rows:List (Option (Nat × List (List AV)))} {w:List Nat} (e:c7 M k=some (s,c0)) (cj:c0 = .mx rows \/ ∃ w0,c0 = .vw w0 rows) :
  RX σ tm ((k,s,.vw w rows)::M) ⟨st.tm,st.own.put s ((st.own s).m7 (σ k 0).2 (some (A3.e8 σ k (.vw w rows))))⟩:=by
 have hs:=h.sat.site _ _ _ e;subst hs;have r0:=DY e;have hg : ∀ j t c,c6 ((k,(σ k 0).1,.vw w rows)::M) j t=some c->(j=k/\t=0/\c = .vw w rows)\/(¬ (j=k/\t=0)/\c6 M j t=some c):=by
  intro j t c g;by_cases hj:j=k
  ·subst hj
   cases t with
   | zero=>rw[PW]at g;exact Or.inl ⟨rfl,rfl,(Option.some.inj g).symm⟩
   | succ t =>
    refine Or.inr ⟨by omega,?_⟩;simp only[c6,c7,Nat.beq_refl,cond_true]at g;rcases cj with rfl|⟨w0,rfl⟩
    ·simp only[c6,e]
     exact g
    ·simp only[c6,e]
     exact g
  ·rw[M3 hj]at g
   exact Or.inr ⟨by omega,g⟩
 have lg : ∀ j t c1,c6 ((k,(σ k 0).1,.vw w rows)::M) j t=some c1 -> ∃ c2,c6 M j t=some c2:=by
  intro j t c1 g;rcases hg j t c1 g with ⟨rfl,rfl,rfl⟩|⟨_,h2⟩
  ·exact ⟨_,r0⟩
  ·exact ⟨_,h2⟩
 refine ⟨h.tm,⟨?_,?_,?_,?_,?_⟩⟩
 ·intro j s' c1 g
  simp only[c7]at g;cases hb:Nat.beq j k<;>simp only[hb,cond_true,cond_false]at g
  ·exact h.sat.site _ _ _ g
  ·simp only[Option.some.injEq,Prod.mk.injEq]at g
   rw[BD.1 hb];exact g.1
 ·intro j t c1 g
  rcases hg j t c1 g with ⟨rfl,rfl,rfl⟩|⟨h1,h2⟩
  ·exact V2
  ·refine (P1 (λ he => ?_)).trans (h.sat.e8 _ _ _ h2)
   exact h1 (h.sat.inj _ _ _ _ _ _ h2 r0 he)
 ·intro j t c1 g
  obtain ⟨c2,e2⟩:=lg _ _ _ g;show (σ j t).2<((st.own.put (σ k 0).1 ((st.own (σ k 0).1).m7 (σ k 0).2 _)) (σ j t).1).g7;rw[TF];exact h.sat.old _ _ _ e2
 ·intro j t j' t' c1 c2 g1 g2 hj
  obtain ⟨_,yk⟩:=lg _ _ _ g1;obtain ⟨_,uf⟩:=lg _ _ _ g2;exact h.sat.inj _ _ _ _ _ _ yk uf hj
 ·intro j t c1 g hw
  rcases hg j t c1 g with ⟨rfl,rfl,rfl⟩|⟨_,h2⟩
  ·exact h.sat.low _ _ _ r0 (by rcases cj with rfl|⟨w0,rfl⟩<;>rfl)
  ·exact h.sat.low _ _ _ h2 hw
theorem RX.Da (h:RX σ tm M st) {s key s':Nat} {rows:List (Option (Nat × List (List AV)))} (e:c7 M key=some (s',.mx rows)) (hm:F5 s M=false) (ht:HA s tm=false) :
  RX (CX σ s λ t=>match t with|0=>(s',st.own.g7 s')|i+1=>σ key (i+1)) tm ((s,s',.mx (rows++[none]))::n0 key M)
   ⟨st.tm,st.own.put s' (((st.own s').m7 (σ key 0).2 none).new ⟨1,BT σ key 0 rows++[[.nil]]⟩)⟩:=by
 have hs:=h.sat.site _ _ _ e;subst hs;have r0:=DY e;generalize hF:(λ t=>match t with|0=>((σ key 0).1,st.own.g7 (σ key 0).1)|i+1=>σ key (i+1):Nat->Nat × Nat)=F;have F0:F 0=((σ key 0).1,st.own.g7 (σ key 0).1):=by rw[<-hF]
 have F1 : ∀ i,F (i+1)=σ key (i+1):=by intro i;rw[<-hF]
 have gb:BT (CX σ s F) s 0 (rows++[none])=BT σ key 0 rows++[[.nil]]:=by
  apply List.ext_getElem?;intro j;rw[EZ,BP];rcases Nat.lt_trichotomy j rows.length with hj|hj|hj
  ·rw[List.getElem?_append_left hj,List.getElem?_append_left (by rw[EO];exact hj),EZ]
   congr 1;funext r
   cases r with
   | none=>rfl
   | some x=>simp only[Nat.zero_add];rw[F1]
  ·subst hj
   rw[List.getElem?_append_right (Nat.le_refl _),List.getElem?_append_right (by rw[EO];exact Nat.le_refl _),EO];simp
  ·rw[List.getElem?_eq_none (by simp;omega),List.getElem?_eq_none (by simp [EO];omega)];rfl
 have vn : ∀ j t c',c6 M j t=some c'->GH s c'=false/\j≠s:=by
  intro j t c' g;obtain ⟨s1,c0,g1,g2,g3⟩:=IL g;obtain ⟨g4,g5⟩:=M4 hm _ _ _ g1;refine ⟨?_,g4⟩;cases t with
  | zero=>rw[g2 rfl];exact g5
  | succ i=>obtain ⟨rows,z,es,_,_,rfl⟩:=g3 i rfl;rfl
 have hg : ∀ j t c,c6 ((s,(σ key 0).1,.mx (rows++[none]))::n0 key M) j t=some c ->
   (j=s/\t=0/\c = .mx (rows++[none]))\/(j=s/\t≠0/\c6 M key t=some c)\/(j≠s/\j≠key/\c6 M j t=some c):=by
  intro j t c g;by_cases hj:j=s
  ·subst hj
   cases t with
   | zero=>rw[PW]at g;exact Or.inl ⟨rfl,rfl,(Option.some.inj g).symm⟩
   | succ t =>
    simp only[c6,c7,Nat.beq_refl,cond_true]at g;rcases Nat.lt_trichotomy t rows.length with jd|jd|jd
    ·rw[List.getElem?_append_left jd]at g
     refine Or.inr (Or.inl ⟨rfl,by omega,?_⟩);simp only[c6,e];exact g
    ·subst jd
     rw[List.getElem?_append_right (Nat.le_refl _),Nat.sub_self]at g;simp at g
    ·rw[List.getElem?_eq_none (by simp;omega)]at g;cases g
  ·rw[M3 hj]at g
   obtain ⟨g1,g2⟩:=JZ g;exact Or.inr (Or.inr ⟨hj,g1,g2⟩)
 refine ⟨λ j => ?_,⟨?_,?_,?_,?_,?_⟩⟩
 ·rw[WN (RF ht j)];exact h.tm j
 ·intro j s1 c g
  simp only[c7]at g;cases hb:Nat.beq j s<;>simp only[hb,cond_true,cond_false]at g
  ·rw[CJ _ (E2.1 hb)];exact h.sat.site _ _ _ (M0 g).2
  ·simp only[Option.some.injEq,Prod.mk.injEq]at g
   rw[BD.1 hb,BP,F0,<-g.1]
 ·intro j t c g
  rcases hg j t c g with ⟨rfl,rfl,rfl⟩|⟨rfl,h0,g2⟩|⟨h0,h1,g2⟩
  ·rw[BP,F0]
   simp only[A3.e8,gb];simp [AH.j4,BX.new,AH.g7,BX.m7]
  ·obtain ⟨t',rfl⟩ : ∃ t',t=t'+1:=⟨t-1,by omega⟩
   rw[BP,F1];have hb:c.e8 (CX σ j F) j=c.e8 σ key:=by
    obtain ⟨_,_,_,_,g3⟩:=IL g2;obtain ⟨_,_,_,_,_,rfl⟩:=g3 t' rfl;rfl
   rw[hb];exact (PS (λ he=>absurd (h.sat.inj _ _ _ _ _ _ g2 r0 he).2 (by omega)) (h.sat.old _ _ _ g2)).trans (h.sat.e8 _ _ _ g2)
  ·rw[CJ _ h0,UR (vn _ _ _ g2).1 h0]
   exact (PS (λ he=>h1 (h.sat.inj _ _ _ _ _ _ g2 r0 he).1) (h.sat.old _ _ _ g2)).trans (h.sat.e8 _ _ _ g2)
 ·intro j t c g
  rcases hg j t c g with ⟨rfl,rfl,rfl⟩|⟨rfl,h0,g2⟩|⟨h0,h1,g2⟩
  ·rw[BP,F0]
   simp [AH.j4,BX.new,AH.g7,BX.m7]
  ·obtain ⟨t',rfl⟩ : ∃ t',t=t'+1:=⟨t-1,by omega⟩
   rw[BP,F1];exact Nat.lt_of_lt_of_le (h.sat.old _ _ _ g2) (PT _)
  ·rw[CJ _ h0]
   exact Nat.lt_of_lt_of_le (h.sat.old _ _ _ g2) (PT _)
 ·have hold : ∀ j t c,c6 ((s,(σ key 0).1,.mx (rows++[none]))::n0 key M) j t=some c->(j=s/\t=0) \/ ∃ j0 t0 c0,c6 M j0 t0=some c0/\CX σ s F j t=σ j0 t0/\((j0=key/\t0=t/\j=s)\/(j0=j/\t0=t/\j≠key)):=by
   intro j t c g;rcases hg j t c g with ⟨rfl,rfl,rfl⟩|⟨rfl,h0,g2⟩|⟨h0,h1,g2⟩
   ·exact Or.inl ⟨rfl,rfl⟩
   ·obtain ⟨t',rfl⟩ : ∃ t',t=t'+1:=⟨t-1,by omega⟩
    exact Or.inr ⟨_,_,_,g2,by rw[BP,F1],Or.inl ⟨rfl,rfl,rfl⟩⟩
   ·exact Or.inr ⟨_,_,_,g2,by rw[CJ _ h0],Or.inr ⟨rfl,rfl,h1⟩⟩
  have iw : ∀ j0 t0 c0,c6 M j0 t0=some c0->CX σ s F s 0≠σ j0 t0:=by
   intro j0 t0 c0 g he;rw[BP,F0]at he;have:=h.sat.old _ _ _ g
   rw[<-he]at this;exact absurd this (Nat.lt_irrefl _)
  intro j t j' t' c c' g g' hj;rcases hold j t c g with ⟨rfl,rfl⟩|⟨j0,t0,c0,a1,a2,a3⟩<;>rcases hold j' t' c' g' with ⟨rfl,rfl⟩|⟨j1,t1,c1,b1,b2,b3⟩
  ·exact ⟨rfl,rfl⟩
  ·rw[b2]at hj;exact absurd hj (iw _ _ _ b1)
  ·rw[a2]at hj;exact absurd hj.symm (iw _ _ _ a1)
  ·rw[a2,b2]at hj
   obtain ⟨q1,q2⟩:=h.sat.inj _ _ _ _ _ _ a1 b1 hj;rcases a3 with ⟨x1,x2,x3⟩|⟨x1,x2,x3⟩<;>rcases b3 with ⟨y1,y2,y3⟩|⟨y1,y2,y3⟩
   ·exact ⟨x3.trans y3.symm,x2.symm.trans (q2.trans y2)⟩
   ·exact absurd (y1.symm.trans (q1.symm.trans x1)) y3
   ·exact absurd (x1.symm.trans (q1.trans y1)) x3
   ·exact ⟨x1.symm.trans (q1.trans y1),x2.symm.trans (q2.trans y2)⟩
 ·intro j t c g hw
  rcases hg j t c g with ⟨rfl,rfl,rfl⟩|⟨rfl,h0,g2⟩|⟨h0,h1,g2⟩
  ·rw[BP,F0];exact h.sat.low _ _ _ r0 rfl
  ·obtain ⟨t',rfl⟩ : ∃ t',t=t'+1:=⟨t-1,by omega⟩
   rw[BP,F1];exact h.sat.low _ _ _ g2 hw
  ·rw[CJ _ h0];exact h.sat.low _ _ _ g2 hw
theorem XP {k:Nat} {v:AV} (h:MB k v=false):NG k v=false:=by
 cases v with
 | row j t z o n=>simp only[MB]at h;simp only[NG,h,cond_false]
 | ptr j t a b=>simp only[MB]at h;simp only[NG,h,cond_false]
 | _=>rfl
theorem R6 {k:Nat} : ∀ {cs:List AV},G9 k cs=false->MQ k cs=false
 | [],_=>rfl
 | c::r,h=>by
  simp only[G9]at h;cases h1:MB k c<;>simp only[h1,cond_true,cond_false]at h
  ·simp only[MQ,XP h1,cond_false,R6 h]
  ·cases h
theorem eB {k:Nat} : ∀ {es:List (List AV)},H9 k es=false->QN k es=false
 | [],_=>rfl
 | c::r,h=>by
  simp only[H9]at h;cases h1:G9 k c<;>simp only[h1,cond_true,cond_false]at h
  ·simp only[QN,R6 h1,cond_false,eB h]
  ·cases h
theorem R5 {k:Nat} {v:AV} (h:NY k v=false):PF k v=false:=by
 cases v with
 | agg cs=>exact R6 h
 | fn p f g cs=>exact R6 h
 | row a b c d e=>exact XP (v := .row a b c d e) h
 | ptr a b c d=>exact XP (v := .ptr a b c d) h
 | _=>rfl
theorem eA {k:Nat} : ∀ {cs:List AV},RE k cs=false->QM k cs=false
 | [],_=>rfl
 | c::r,h=>by
  simp only[RE]at h;cases h1:NY k c<;>simp only[h1,cond_true,cond_false]at h
  ·simp only[QM,R5 h1,cond_false,eA h]
  ·cases h
theorem uC {k:Nat} {v:AV} (h:MC k v=false):OG k v=false:=by
 cases v with
 | j5 cs=>exact eA h
 | agg cs=>exact R5 (v := .agg cs) h
 | fn p f g cs=>exact R5 (v := .fn p f g cs) h
 | row a b c d e=>exact R5 (v := .row a b c d e) h
 | ptr a b c d=>exact R5 (v := .ptr a b c d) h
 | _=>rfl
theorem eG {k:Nat} : ∀ {tm:Tm},HA k tm=false->MR k tm=false
 | [],_=>rfl
 | (i,v)::r,h=>by
  simp only[HA]at h;cases h1:MC k v<;>simp only[h1,cond_true,cond_false]at h
  ·simp only[MR,uC h1,cond_false,eG h]
  ·cases h
theorem eF {k:Nat} : ∀ {M:Mem},F5 k M=false->I4 k M=false
 | [],_=>rfl
 | (i,s,c)::r,h=>by
  simp only[F5]at h;cases h0:Nat.beq k i<;>simp only[h0,cond_true,cond_false]at h
  ·cases h1:GH k c<;>simp only[h1,cond_true,cond_false]at h
   ·have:NH k c=false:=by
     cases c with
     | bx cs=>exact R6 h1
     | bs z es=>exact eB h1
     | _=>rfl
    simp only[I4,this,cond_false,eF h]
   ·cases h
  ·cases h
theorem RX.Ux {M1 M2:Mem} (hm : ∀ k,c7 M1 k=c7 M2 k) (h:RX σ tm M1 st):RX σ tm M2 st:=by
 have hr : ∀ k t,c6 M1 k t=c6 M2 k t:=λ k t=>by simp only[c6,hm]
 refine ⟨h.tm,⟨λ k s c e => ?_,λ k t c e => ?_,λ k t c e => ?_,λ k t k' t' c c' e e' => ?_,λ k t c e hw => ?_⟩⟩
 ·rw[<-hm]at e;exact h.sat.site _ _ _ e
 ·rw[<-hr]at e;exact h.sat.e8 _ _ _ e
 ·rw[<-hr]at e;exact h.sat.old _ _ _ e
 ·rw[<-hr]at e e';exact h.sat.inj _ _ _ _ _ _ e e'
 ·rw[<-hr]at e;exact h.sat.low _ _ _ e hw
theorem RX.Gk (h:RX σ tm M st) {s q k2 s2 z:Nat} {es:List (List AV)} (e2:c7 M k2=some (s2,.rw z es)) (hk:s≠k2) (hm:F5 s M=false) (ht:HA s tm=false) (hq:EC q=true) :
  ∃ σ',σ' s 0=(q,st.own.g7 q)/\RX σ' tm ((s,q,.mx [some (z,es)])::n0 k2 M) ⟨st.tm,st.own.put q ((st.own q).new ⟨1,[[.row (σ k2 0).1 (σ k2 0).2 z 0 es.length]]⟩)⟩:=by
 have cn:A3.flat (.mx [none]):=by
  intro i x hx;cases i with
  | zero=>simp at hx
  | succ i=>simp at hx
 have h1:=h.al (s:=s) (q:=q) hm ht (.mx [none]) cn rfl (λ_=>hq);have uf:c7 ((s,q,.mx [none])::M) k2=some (s2,.rw z es):=by
  simp only[c7,E2.2 (λ e=>hk e.symm),cond_false];exact e2
 have oh:I4 s ((s,q,.mx [none])::M)=false:=by simp only[I4,NH,cond_false,eF hm]
 have h2:=h1.vu (k:=s) (s:=q) (k2:=k2) (i:=0) (rows:=[none]) (c0 := .mx [none]) (by simp [c7]) (Or.inl rfl) uf hk (eG ht) oh (by simp);refine ⟨CX σ s (λ t=>if t=0+1 then σ k2 0 else (q,st.own.g7 q)),?_,?_⟩
 ·rw[BP];simp
 ·have hσ:(CX (CX σ s λ_=>(q,st.own.g7 q)) s λ t=>if t=0+1 then (CX σ s λ_=>(q,st.own.g7 q)) k2 0 else (CX σ s λ_=>(q,st.own.g7 q)) s t)=CX σ s (λ t=>if t=0+1 then σ k2 0 else (q,st.own.g7 q)):=by
   funext j t
   by_cases hj:j=s
   ·subst hj;rw[BP,BP];simp only[BP,CJ _ (λ e=>hk e.symm)]
   ·rw[CJ _ hj,CJ _ hj,CJ _ hj]
  rw[hσ]at h2;have hM:n0 k2 ((s,q,A3.mx [none])::M)=(s,q,.mx [none])::n0 k2 M:=by
   simp only[n0,E2.2 (λ e=>hk e.symm),cond_false]
  rw[hM]at h2;have ho : ∀ b b':DJ,(st.own.put q ((st.own q).new b)).put q (((st.own.put q ((st.own q).new b)) q).m7 (st.own.g7 q) (some b'))=st.own.put q ((st.own q).new b'):=by
   intro b b';rw[AH.du,AH.j4];congr 1;simp only[BX.m7,BX.new,AH.g7,BX.mk.injEq,true_and];funext t'
   by_cases jd:t'=(st.own q).g7<;>simp [jd]
  have hn:(CX σ s λ_=>(q,st.own.g7 q)) s 0=(q,st.own.g7 q):=by rw[BP]
  have fh:(CX σ s λ_=>(q,st.own.g7 q)) k2=σ k2:=CJ _ (λ e=>hk e.symm);simp only[hn,fh]at h2;rw[ho]at h2;refine RX.Ux (λ k => ?_) h2;simp only[c7];cases Nat.beq k s<;>rfl
theorem RX.Cz (h:RX σ tm M st) {s key k2 ky s' s2 z:Nat} {rows:List (Option (Nat × List (List AV)))} {es:List (List AV)} (e:c7 M key=some (s',.mx rows)) (e2:c7 M k2=some (s2,.rw z es)) (hk:key≠k2) (hm:F5 s M=false) (ht:HA s tm=false) :
  RX (CX σ s λ t=>match t with|0=>(s',st.own.g7 s')|i+1=>if i=rows.length then σ k2 0 else σ key (i+1)) tm ((s,s',.mx (rows++[some (z,es)]))::n0 key (n0 k2 (n0 ky M)))
   ⟨st.tm,st.own.put s' (((st.own s').m7 (σ key 0).2 none).new ⟨1,BT σ key 0 rows++[[.row (σ k2 0).1 (σ k2 0).2 z 0 es.length]]⟩)⟩:=by
 have hs:=h.sat.site _ _ _ e;subst hs;have r0:=DY e;have r2:=DY e2;generalize hF:(λ t=>match t with|0=>((σ key 0).1,st.own.g7 (σ key 0).1)|i+1=>if i=rows.length then σ k2 0 else σ key (i+1):Nat->Nat × Nat)=F;have F0:F 0=((σ key 0).1,st.own.g7 (σ key 0).1):=by rw[<-hF]
 have F1 : ∀ i,F (i+1)=if i=rows.length then σ k2 0 else σ key (i+1):=by intro i;rw[<-hF]
 have gb:BT (CX σ s F) s 0 (rows++[some (z,es)])=BT σ key 0 rows++[[.row (σ k2 0).1 (σ k2 0).2 z 0 es.length]]:=by
  apply List.ext_getElem?;intro j;rw[EZ,BP];rcases Nat.lt_trichotomy j rows.length with hj|hj|hj
  ·rw[List.getElem?_append_left hj,List.getElem?_append_left (by rw[EO];exact hj),EZ]
   congr 1;funext r
   cases r with
   | none=>rfl
   | some x=>simp only[Nat.zero_add];rw[F1,if_neg (by omega)]
  ·subst hj
   rw[List.getElem?_append_right (Nat.le_refl _),List.getElem?_append_right (by rw[EO];exact Nat.le_refl _),EO];simp [F1]
  ·rw[List.getElem?_eq_none (by simp;omega),List.getElem?_eq_none (by simp [EO];omega)];rfl
 have vn : ∀ j t c',c6 M j t=some c'->GH s c'=false/\j≠s:=by
  intro j t c' g;obtain ⟨s1,c0,g1,g2,g3⟩:=IL g;obtain ⟨g4,g5⟩:=M4 hm _ _ _ g1;refine ⟨?_,g4⟩;cases t with
  | zero=>rw[g2 rfl];exact g5
  | succ i=>obtain ⟨rows,z,es,_,_,rfl⟩:=g3 i rfl;rfl
 have hg : ∀ j t c,c6 ((s,(σ key 0).1,.mx (rows++[some (z,es)]))::n0 key (n0 k2 (n0 ky M))) j t=some c ->
   (j=s/\t=0/\c = .mx (rows++[some (z,es)]))\/(j=s/\t=rows.length+1/\c = .rw z es)\/(j=s/\t≠0/\t≠rows.length+1/\c6 M key t=some c)\/(j≠s/\j≠key/\j≠k2/\c6 M j t=some c):=by
  intro j t c g;by_cases hj:j=s
  ·subst hj
   cases t with
   | zero=>rw[PW]at g;exact Or.inl ⟨rfl,rfl,(Option.some.inj g).symm⟩
   | succ t =>
    simp only[c6,c7,Nat.beq_refl,cond_true]at g;rcases Nat.lt_trichotomy t rows.length with jd|jd|jd
    ·rw[List.getElem?_append_left jd]at g
     refine Or.inr (Or.inr (Or.inl ⟨rfl,by omega,by omega,?_⟩));simp only[c6,e];exact g
    ·subst jd
     rw[List.getElem?_append_right (Nat.le_refl _),Nat.sub_self]at g;exact Or.inr (Or.inl ⟨rfl,rfl,(Option.some.inj g).symm⟩)
    ·rw[List.getElem?_eq_none (by simp;omega)]at g;cases g
  ·rw[M3 hj]at g
   obtain ⟨g1,g2⟩:=JZ g;obtain ⟨g3,g4⟩:=JZ g2;obtain ⟨_,g5⟩:=JZ g4;exact Or.inr (Or.inr (Or.inr ⟨hj,g1,g3,g5⟩))
 refine ⟨λ j => ?_,⟨?_,?_,?_,?_,?_⟩⟩
 ·rw[WN (RF ht j)];exact h.tm j
 ·intro j s1 c g
  simp only[c7]at g;cases hb:Nat.beq j s<;>simp only[hb,cond_true,cond_false]at g
  ·rw[CJ _ (E2.1 hb)];exact h.sat.site _ _ _ (M0 (M0 (M0 g).2).2).2
  ·simp only[Option.some.injEq,Prod.mk.injEq]at g
   rw[BD.1 hb,BP,F0,<-g.1]
 ·intro j t c g
  rcases hg j t c g with ⟨rfl,rfl,rfl⟩|⟨rfl,rfl,rfl⟩|⟨rfl,h0,h1,g2⟩|⟨h0,h1,h2,g2⟩
  ·rw[BP,F0]
   simp only[A3.e8,gb];simp [AH.j4,BX.new,AH.g7,BX.m7]
  ·rw[BP,F1,if_pos rfl]
   exact (PS (λ he=>hk (h.sat.inj _ _ _ _ _ _ r2 r0 he).1.symm) (h.sat.old _ _ _ r2)).trans (h.sat.e8 _ _ _ r2)
  ·obtain ⟨t',rfl⟩ : ∃ t',t=t'+1:=⟨t-1,by omega⟩
   rw[BP,F1,if_neg (by omega)];have hb:c.e8 (CX σ j F) j=c.e8 σ key:=by
    obtain ⟨_,_,_,_,g3⟩:=IL g2;obtain ⟨_,_,_,_,_,rfl⟩:=g3 t' rfl;rfl
   rw[hb];exact (PS (λ he=>absurd (h.sat.inj _ _ _ _ _ _ g2 r0 he).2 (by omega)) (h.sat.old _ _ _ g2)).trans (h.sat.e8 _ _ _ g2)
  ·rw[CJ _ h0,UR (vn _ _ _ g2).1 h0]
   exact (PS (λ he=>h1 (h.sat.inj _ _ _ _ _ _ g2 r0 he).1) (h.sat.old _ _ _ g2)).trans (h.sat.e8 _ _ _ g2)
 ·intro j t c g
  rcases hg j t c g with ⟨rfl,rfl,rfl⟩|⟨rfl,rfl,rfl⟩|⟨rfl,h0,h1,g2⟩|⟨h0,h1,h2,g2⟩
  ·rw[BP,F0]
   simp [AH.j4,BX.new,AH.g7,BX.m7]
  ·rw[BP,F1,if_pos rfl]
   exact Nat.lt_of_lt_of_le (h.sat.old _ _ _ r2) (PT _)
  ·obtain ⟨t',rfl⟩ : ∃ t',t=t'+1:=⟨t-1,by omega⟩
   rw[BP,F1,if_neg (by omega)];exact Nat.lt_of_lt_of_le (h.sat.old _ _ _ g2) (PT _)
  ·rw[CJ _ h0]
   exact Nat.lt_of_lt_of_le (h.sat.old _ _ _ g2) (PT _)
 ·have hold : ∀ j t c,c6 ((s,(σ key 0).1,.mx (rows++[some (z,es)]))::n0 key (n0 k2 (n0 ky M))) j t=some c->(j=s/\t=0) \/ ∃ j0 t0 c0,c6 M j0 t0=some c0/\CX σ s F j t=σ j0 t0/\((j0=k2/\t0=0/\j=s/\t=rows.length+1)\/(j0=key/\t0=t/\j=s)\/(j0=j/\t0=t/\j≠key/\j≠k2)):=by
   intro j t c g;rcases hg j t c g with ⟨rfl,rfl,rfl⟩|⟨rfl,rfl,rfl⟩|⟨rfl,h0,h1,g2⟩|⟨h0,h1,h2,g2⟩
   ·exact Or.inl ⟨rfl,rfl⟩
   ·exact Or.inr ⟨_,_,_,r2,by rw[BP,F1,if_pos rfl],Or.inl ⟨rfl,rfl,rfl,rfl⟩⟩
   ·obtain ⟨t',rfl⟩ : ∃ t',t=t'+1:=⟨t-1,by omega⟩
    exact Or.inr ⟨_,_,_,g2,by rw[BP,F1,if_neg (by omega)],Or.inr (Or.inl ⟨rfl,rfl,rfl⟩)⟩
   ·exact Or.inr ⟨_,_,_,g2,by rw[CJ _ h0],Or.inr (Or.inr ⟨rfl,rfl,h1,h2⟩)⟩
  have iw : ∀ j0 t0 c0,c6 M j0 t0=some c0->CX σ s F s 0≠σ j0 t0:=by
   intro j0 t0 c0 g he;rw[BP,F0]at he;have:=h.sat.old _ _ _ g
   rw[<-he]at this;exact absurd this (Nat.lt_irrefl _)
  intro j t j' t' c c' g g' hj;rcases hold j t c g with ⟨rfl,rfl⟩|⟨j0,t0,c0,a1,a2,a3⟩<;>rcases hold j' t' c' g' with ⟨rfl,rfl⟩|⟨j1,t1,c1,b1,b2,b3⟩
  ·exact ⟨rfl,rfl⟩
  ·rw[b2]at hj;exact absurd hj (iw _ _ _ b1)
  ·rw[a2]at hj;exact absurd hj.symm (iw _ _ _ a1)
  ·rw[a2,b2]at hj
   obtain ⟨q1,q2⟩:=h.sat.inj _ _ _ _ _ _ a1 b1 hj;rcases a3 with ⟨x1,x2,x3,x4⟩|⟨x1,x2,x3⟩|⟨x1,x2,x3,x4⟩<;>rcases b3 with ⟨y1,y2,y3,y4⟩|⟨y1,y2,y3⟩|⟨y1,y2,y3,y4⟩
   ·exact ⟨x3.trans y3.symm,x4.trans y4.symm⟩
   ·exact absurd (y1.symm.trans (q1.symm.trans x1)) hk
   ·exact absurd (y1.symm.trans (q1.symm.trans x1)) y4
   ·exact absurd (x1.symm.trans (q1.trans y1)) hk
   ·exact ⟨x3.trans y3.symm,x2.symm.trans (q2.trans y2)⟩
   ·exact absurd (y1.symm.trans (q1.symm.trans x1)) y3
   ·exact absurd (x1.symm.trans (q1.trans y1)) x4
   ·exact absurd (x1.symm.trans (q1.trans y1)) x3
   ·exact ⟨x1.symm.trans (q1.trans y1),x2.symm.trans (q2.trans y2)⟩
 ·intro j t c g hw
  rcases hg j t c g with ⟨rfl,rfl,rfl⟩|⟨rfl,rfl,rfl⟩|⟨rfl,h0,h1,g2⟩|⟨h0,h1,h2,g2⟩
  ·rw[BP,F0];exact h.sat.low _ _ _ r0 rfl
  ·rw[BP,F1,if_pos rfl];exact h.sat.low _ _ _ r2 rfl
  ·obtain ⟨t',rfl⟩ : ∃ t',t=t'+1:=⟨t-1,by omega⟩
   rw[BP,F1,if_neg (by omega)];exact h.sat.low _ _ _ g2 hw
  ·rw[CJ _ h0];exact h.sat.low _ _ _ g2 hw
theorem F7 (k:IntKind) (n:Int):BB σ (.int k n) = .int k n:=rfl
theorem F6 (b:Bool):BB σ (.bool b) = .bool b:=rfl
theorem F8 (l:Bool) (es:List (List AV)):BB σ (.sl l es) = .sl l es:=rfl
theorem CS (k t z o n:Nat):BB σ (.row k t z o n) = .row (σ k t).1 (σ k t).2 z o n:=rfl
theorem DU (k t i j:Nat):BB σ (.ptr k t i j) = .ptr (σ k t).1 (σ k t).2 i j:=rfl
theorem HV (cs:List AV):BB σ (.o8 cs) = .o8 cs:=rfl
theorem EK:BB σ .nil = .nil:=rfl
theorem GV (cs:List AV):BB σ (.agg cs) = .agg (cs.map (A7 σ)):=rfl
theorem Pb (v:Value):BB σ (.z9 v) = .z9 v:=rfl
theorem aR (p:Bool) (f g:Nat) (cs:List AV):BB σ (.fn p f g cs) = .fn p f g (cs.map (A7 σ)):=rfl
theorem HB (cs:List AV):BB σ (.j5 cs) = .j5 (cs.map (BO σ)):=rfl
def BW.res (own:AH):BW->AV × AH
 | .val v=>(v,own)
 | .new s b f=>(f (own.g7 s),own.put s ((own s).new b))
 | .sd s b f=>(f (own.g7 s),own.put s ((own s).new b))
 | .z0 v o=>(v,o)
 | .m7 s x=>(.j5 [],own.put s x)
 | .nr s x v=>(v,own.put s x)
theorem XD (st:St) (d:Option Nat) (E:BW):st.app d E=⟨(st.dst d (E.res st.own).1).tm,(E.res st.own).2⟩:=by
 cases E<;>cases d<;>rfl
def BH (L:Lib) (tm:Tm) (b9:List Nat) (K:AV->Mem->Prop) (op:DL) (st:St):Prop :=
 ∃ E σ' v M',(∀ c,c8 (C8 L c) b9 st.ev st.own op=some E)/\K v M'/\(E.res st.own).1=BB σ' v/\RX σ' tm M' ⟨st.tm,(E.res st.own).2⟩
theorem BH.val {L:Lib} {b9:List Nat} {K:AV->Mem->Prop} {op:DL} (h:RX σ tm M st) (v:AV) (he : ∀ c,c8 (C8 L c) b9 st.ev st.own op=some (.val (BB σ v))) (hk:K v M):BH L tm b9 K op st :=
 ⟨_,σ,v,M,he,hk,rfl,h⟩
variable {L:Lib} {b9:List Nat} {K:AV->Mem->Prop}
theorem sX {x:AM} (hr:RX σ tm M st) (h:XE L tm M b9 K (.b7 x)):BH L tm b9 K (.b7 x) st:=by
 simp only[XE]at h;obtain ⟨h1,h2⟩:=VK h;exact BH.val hr _ (λ C=>by simp only[c8,hr.ev rfl h1]) h2
theorem tG {s z:Nat} (hr:RX σ tm M st) (h:XE L tm M b9 K (.w9 s z)):BH L tm b9 K (.w9 s z) st:=by
 simp only[XE]at h;cases bg:EC s<;>simp only[bg,cond_true,cond_false]at h;obtain ⟨k,h1,h2,h3⟩:=FY h;refine ⟨_,_,_,_,λ C=>rfl,h3,?_,hr.al h1 h2 (.rw z []) trivial rfl (λ_=>bg)⟩;simp only[BW.res,CS,DU,BP]
theorem sZ {c a b:AM} (hr:RX σ tm M st) (h:XE L tm M b9 K (.pick c a b)):BH L tm b9 K (.pick c a b) st:=by
 simp only[XE]at h;split at h
 ·rename_i e
  obtain ⟨h1,h2⟩:=VK h;exact BH.val hr _ (λ C=>by simp only[c8,hr.ev e (by intro e;cases e),hr.ev rfl h1,F7,F6,F8,CS,DU,HV,EK,GV,HB]) h2
 ·rename_i e
  obtain ⟨h1,h2⟩:=VK h;exact BH.val hr _ (λ C=>by simp only[c8,hr.ev e (by intro e;cases e),hr.ev rfl h1,F7,F6,F8,CS,DU,HV,EK,GV,HB]) h2
 ·exact h.elim
theorem Nx {op:BinOp} {k k':IntKind} {a b:Int} {v:AV} (h:C9 op k a k' b=some v):BB σ v=v:=by
 cases op<;>simp only[C9]at h<;>split at h<;>first|(obtain rfl:=Option.some.inj h;rfl)|cases h
theorem Na {k k':IntKind} (h:kq k k'=true):k=k':=by simpa [kq] using h
theorem tT {op:BinOp} {k k':IntKind} {a b:Int} {K:AV->Prop} (h:XH op k a k' b K) : ∃ v,C9 op k a k' b=some v/\K v:=by
 have key : ∀ (p q:Prop) [Decidable p] (A B:Prop) (c:Bool),(¬ p->q)->AF p q A B->(p/\A)\/(¬ p/\B):=by
  intro p q _ A B _ hq hc;by_cases hp:p
  ·exact Or.inl ⟨hp,hc.1 hp⟩
  ·exact Or.inr ⟨hp,hc.2 (hq hp)⟩
 cases op;all_goals try (exact h)
 all_goals (
  simp only[XH]at h;cases hk:kq k k'<;>simp only[hk,cond_true,cond_false]at h;obtain rfl:=Na hk;simp only[C9,if_true])
 ·rcases key (a=b) _ _ _ true (λ e=>e) h with ⟨h1,h2⟩|⟨h1,h2⟩
  ·exact ⟨_,rfl,by rw[show (a == b)=true by simpa using h1];exact h2⟩
  ·exact ⟨_,rfl,by rw[show (a == b)=false by simpa using h1];exact h2⟩
 ·rcases key (a≠b) _ _ _ true (λ e=>by omega) h with ⟨h1,h2⟩|⟨h1,h2⟩
  ·exact ⟨_,rfl,by rw[show (a != b)=true by simpa using h1];exact h2⟩
  ·exact ⟨_,rfl,by rw[show (a != b)=false by simpa using h1];exact h2⟩
 ·rcases key (a<b) _ _ _ true (λ e=>by omega) h with ⟨h1,h2⟩|⟨h1,h2⟩
  ·exact ⟨_,rfl,by simpa [h1] using h2⟩
  ·exact ⟨_,rfl,by simpa [h1] using h2⟩
 ·rcases key (a<=b) _ _ _ true (λ e=>by omega) h with ⟨h1,h2⟩|⟨h1,h2⟩
  ·exact ⟨_,rfl,by simpa [h1] using h2⟩
  ·exact ⟨_,rfl,by simpa [h1] using h2⟩
 ·rcases key (b<a) _ _ _ true (λ e=>by omega) h with ⟨h1,h2⟩|⟨h1,h2⟩
  ·exact ⟨_,rfl,by simpa [h1] using h2⟩
  ·exact ⟨_,rfl,by simpa [h1] using h2⟩
 ·rcases key (b<=a) _ _ _ true (λ e=>by omega) h with ⟨h1,h2⟩|⟨h1,h2⟩
  ·exact ⟨_,rfl,by simpa [h1] using h2⟩
  ·exact ⟨_,rfl,by simpa [h1] using h2⟩
theorem sE {op:BinOp} {x y:AM} (hr:RX σ tm M st) (h:XE L tm M b9 K (.bin op x y)):BH L tm b9 K (.bin op x y) st:=by
 simp only[XE]at h;split at h
 ·rename_i k a k' b e1 e2
  obtain ⟨v,hv,hk⟩:=tT h;exact BH.val hr v (λ C=>by
   simp only[c8,hr.ev e1 (by intro e;cases e),hr.ev e2 (by intro e;cases e),F7,F6,F8,CS,DU,HV,EK,GV,HB,hv,Option.map_some];exact congrArg some (congrArg BW.val (Nx (σ:=σ) hv).symm)) hk
 ·exact h.elim
theorem sD {ne:Bool} {x y:AM} (hr:RX σ tm M st) (h:XE L tm M b9 K (.beq ne x y)):BH L tm b9 K (.beq ne x y) st:=by
 simp only[XE]at h;split at h
 ·rename_i a b e1 e2
  rw[NN]at h;exact BH.val hr _ (λ C=>by
   simp only[c8,hr.ev e1 (by intro e;cases e),hr.ev e2 (by intro e;cases e),F7,F6,F8,CS,DU,HV,EK,GV,HB];cases ne<;>rfl) h
 ·exact h.elim
theorem ZK : ∀ {cs:List AV} {a:List Int},G7 cs=some a->cs.map (A7 σ)=cs
 | [],_,_=>rfl
 | c::r,a,h=>by
  cases c with
  | int k n =>
   cases k<;>simp only[G7]at h<;>first|cases h|skip
   cases hr:G7 r with
   | none=>rw[hr]at h;cases h
   | some b=>rw[List.map_cons,ZK hr];rfl
  | _=>simp only[G7]at h;cases h
theorem rU {ne:Bool} {n:Nat} {x y:AM} (hr:RX σ tm M st) (h:XE L tm M b9 K (.mv ne n x y)):BH L tm b9 K (.mv ne n x y) st:=by
 simp only[XE]at h;split at h
 ·rename_i cs ds e1 e2
  obtain ⟨a,b,h1,h2,h3,h4,h⟩:=h;rw[NN]at h;exact BH.val hr _ (λ C=>by
   simp only[c8,hr.ev e1 (by intro e;cases e),hr.ev e2 (by intro e;cases e),GV,ZK h1,ZK h2,h1,h2];rw[if_pos ⟨h3,h4⟩];cases ne<;>rfl) h
 ·exact h.elim
theorem tF {op:UnOp} {x:AM} (hr:RX σ tm M st) (h:XE L tm M b9 K (.un op x)):BH L tm b9 K (.un op x) st:=by
 simp only[XE]at h;split at h
 ·rename_i k n e1
  obtain ⟨v,hv,hk⟩:=h;refine BH.val hr v (λ C => ?_) hk;simp only[c8,hr.ev e1 (by intro e;cases e),F7,F6,F8,CS,DU,HV,EK,GV,HB,hv,Option.map_some];cases op<;>simp only[O0,Option.some.injEq,reduceCtorEq]at hv<;>subst hv<;>rfl
 ·rename_i b e1
  split at h
  ·rw[NN]at h
   exact BH.val hr _ (λ C=>by simp only[c8,hr.ev e1 (by intro e;cases e),F7,F6,F8,CS,DU,HV,EK,GV,HB,O0,Option.map_some]) h
  ·exact h.elim
 ·exact h.elim
theorem sJ {k:IntKind} {x:AM} (hr:RX σ tm M st) (h:XE L tm M b9 K (.conv k x)):BH L tm b9 K (.conv k x) st:=by
 simp only[XE]at h;split at h
 ·rename_i k' n e1
  exact BH.val hr _ (λ C=>by simp only[c8,hr.ev e1 (by intro e;cases e),F7,F6,F8,CS,DU,HV,EK,GV,HB]) h
 ·exact h.elim
theorem sF {s:Nat} {x:AM} (hr:RX σ tm M st) (h:XE L tm M b9 K (.box s x)):BH L tm b9 K (.box s x) st:=by
 simp only[XE]at h;obtain ⟨h0,cs,hc,h⟩:=VJ h;obtain ⟨k,h1,h2,h3⟩:=FY h;refine ⟨.new s (A3.e8 σ k (.bx cs)) (λ t => .ptr s t 0 0),_,_,_,λ C => ?_,h3,?_,hr.al h1 h2 (.bx cs) trivial (nA (jK h2 x) hc) (λ h=>nomatch h)⟩
 ·simp only[c8,hr.ev rfl h0,MP hc,List.length_map,A3.e8]
 ·simp only[BW.res,CS,DU,BP]
theorem rV {s:Nat} {z:List AV} (hr:RX σ tm M st) (h:XE L tm M b9 K (.alloc s z)):BH L tm b9 K (.alloc s z) st:=by
 simp only[XE]at h;cases hd:DW z<;>simp only[hd,cond_true,cond_false]at h;obtain ⟨k,h1,h2,h3⟩:=FY h;refine ⟨.new s (A3.e8 σ k (.bx z)) (λ t => .ptr s t 0 0),_,_,_,λ C => ?_,h3,?_,hr.al h1 h2 (.bx z) trivial (XY hd) (λ h=>nomatch h)⟩
 ·simp only[c8,A3.e8,H2 hd]
 ·simp only[BW.res,CS,DU,BP]
theorem TC {cs ds:List AV} {off n:Nat} (h:part cs off n=some ds):part (cs.map (A7 σ)) off n=some (ds.map (A7 σ)):=by
 simp only[part]at h ⊢;split at h
 ·rename_i hl
  rw[if_pos (by simpa using hl)];obtain rfl:=Option.some.inj h;rw[List.map_take,List.map_drop]
 ·cases h
theorem jM {v:AV} {K:AV->Prop} (h:fF v K):v ≠ .any/\BB σ v=A7 σ v/\K v:=by
 cases v<;>simp only[fF]at h<;>first|exact h.elim|exact ⟨(by intro e;cases e),rfl,h⟩
theorem NU (σ:FA) {agg:Bool} {ds:List AV} {K:AV->Prop} (h:kg agg ds K) : ∃ v,H6 agg (ds.map (A7 σ))=some (BB σ v)/\K v:=by
 cases agg
 ·simp only[kg]at h
  split at h
  ·rename_i c
   obtain ⟨_,h1,h2⟩:=jM (σ:=σ) h;exact ⟨c,by rw[h1];rfl,h2⟩
  ·exact h.elim
 ·exact ⟨.agg ds,rfl,h⟩
theorem oE {cs vs:List AV} {j:Nat}:(splice cs j vs).map (A7 σ)=splice (cs.map (A7 σ)) j (vs.map (A7 σ)):=by
 simp only[splice,List.map_append,List.map_take,List.map_drop,List.length_map]
theorem jR (hr:RX σ tm M st) : ∀ {ps:List (Nat × Nat × AM)} {cells:List AV} {K:List AV->Prop},Y1 tm ps cells K -> ∃ cs,fill (cells.map (A7 σ)) (ps.map λ p=>(p.1,p.2.1,st.ev p.2.2))=some (cs.map (A7 σ))/\K cs
 | [],cells,K,h=>⟨cells,rfl,h⟩
 | p::r,cells,K,h=>by
  obtain ⟨h0,vs,hc,h⟩:=VJ (show fC (ex tm p.2.2) λ vs=>bif Nat.beq vs.length p.2.1 then bif Nat.ble (p.1+p.2.1) cells.length then fL (splice cells p.1 vs) λ cells=>Y1 tm r cells K else False else False from h);cases hz:Nat.beq vs.length p.2.1<;>simp only[hz,cond_true,cond_false]at h;have hl:Nat.ble (p.1+p.2.1) cells.length=true:=by
   cases hl:Nat.ble (p.1+p.2.1) cells.length
   ·rw[hl]at h;exact h.elim
   ·rfl
  rw[hl]at h;simp only[cond_true,GE]at h;obtain ⟨cs,h1,h2⟩:=jR hr h;refine ⟨cs,?_,h2⟩;simp only[List.map_cons,fill,hr.ev rfl h0,MP hc,List.length_map];rw[if_pos ⟨BD.1 hz,Nat.le_of_ble_eq_true hl⟩,<-oE];exact h1
theorem sH {z:List AV} {ps:List (Nat × Nat × AM)} (hr:RX σ tm M st) (h:XE L tm M b9 K (.build z ps)):BH L tm b9 K (.build z ps) st:=by
 simp only[XE]at h;cases hd:DW z<;>simp only[hd,cond_true,cond_false]at h;obtain ⟨cs,h1,h2⟩:=jR hr h;refine BH.val hr (.agg cs) (λ C => ?_) h2;rw[H2 hd]at h1;simp only[c8,h1];rfl
theorem jJ : ∀ l:List AM,OJ tm l=l.map (ex tm)
 | []=>rfl
 | x::r=>by rw[OJ,jJ r];rfl
theorem fY : ∀ {es:List (List AV)},SE es=true -> ∀ e∈es,DW e=true
 | e0::r,h,e,he=>by
  simp only[SE]at h;cases h1:DW e0<;>simp only[h1,cond_true,cond_false]at h
  ·cases h
  ·rcases List.mem_cons.1 he with rfl|he
   ·exact h1
   ·exact fY h e he
theorem vJ {es:List (List AV)} (h : ∀ e∈es,DW e=true):(es.map λ cs=>cs.map (A7 σ))=es:=by
 conv=>rhs;rw[<-List.map_id es]
 exact List.map_congr_left λ e he=>H2 (h e he)
theorem ZS {es:List (List AV)} {K:Nat->Prop} (h:S3 es K):K es.length:=by
 unfold S3 at h;split at h<;>exact h
theorem dY (hr:RX σ tm M st) {z:Nat} : ∀ {l:List AM} {K:List (List AV)->Prop},XM tm z l K -> ∃ es,l.mapM (λ x=>cellsOf (st.ev x))=some (es.map λ cs=>cs.map (A7 σ))/\(∀ e∈es,e.length=z)/\(∀ k,HA k tm=false->H9 k es=false)/\K es
 | [],K,h=>⟨[],rfl,(λ e he=>by cases he),λ_ _=>rfl,h⟩
 | x::r,K,h=>by
  obtain ⟨h0,cs,hc,h⟩:=VJ (show fC (ex tm x) λ cs=>bif Nat.beq cs.length z then XM tm z r λ es=>K (cs::es) else False from h);cases hz:Nat.beq cs.length z<;>simp only[hz,cond_true,cond_false]at h;obtain ⟨es,h1,h2,h4,h3⟩:=dY hr h;refine ⟨cs::es,?_,λ e he => ?_,λ k hk => ?_,h3⟩
  ·rw[List.mapM_cons,h1,hr.ev rfl h0,MP hc];rfl
  ·rcases List.mem_cons.1 he with rfl|he
   ·exact BD.1 hz
   ·exact h2 e he
  ·simp only[H9,nA (jK hk x) hc,cond_false,h4 k hk]
theorem yJ (hr:RX σ tm M st) {xs:List AM} (h : ∀ v∈OJ tm xs,v ≠ .any):xs.map st.ev=(OJ tm xs).map (BB σ):=by
 rw[jJ]at h ⊢;rw[List.map_map];exact List.map_congr_left λ x hx=>hr.ev rfl (h _ (List.mem_map_of_mem hx))
theorem sG {s z:Nat} {ps:List AM} (hr:RX σ tm M st) (h:XE L tm M b9 K (.c9 s z ps)):BH L tm b9 K (.c9 s z ps) st:=by
 simp only[XE]at h;cases bg:EC s<;>simp only[bg,cond_true,cond_false]at h;obtain ⟨es,g1,g2,g3,h⟩:=dY hr h;obtain ⟨k,h1,h2,h3⟩:=FY (ZS h);have key : ∀ c:A3,c.flat->GH k c=false->c.e8 σ k=⟨z,es.map λ cs=>cs.map (A7 σ)⟩->K (.row k 0 z 0 es.length) ((k,s,c)::M)->BH L tm b9 K (.c9 s z ps) st:=by
  intro c hf hc hb hk;refine ⟨.new s (c.e8 σ k) (λ t => .row s t z 0 es.length),_,_,_,λ C => ?_,hk,?_,hr.al h1 h2 c hf hc (λ_=>bg)⟩
  ·simp only[c8,g1,hb]
   rw[if_pos (λ e he=>by obtain ⟨e',ef,rfl⟩:=List.mem_map.1 he;simpa using g2 e' ef)];simp only[List.length_map]
  ·simp only[BW.res,CS,BP]
 cases hd:SE es<;>simp only[hd,cond_true,cond_false]at h3
 ·exact key (.bs z es) trivial (g3 k h2) rfl h3
 ·exact key (.rw z es) trivial rfl (by simp only[A3.e8];rw[vJ (fY hd)]) h3
theorem sM {x:AM} {off:Nat} (hr:RX σ tm M st) (h:XE L tm M b9 K (.a5 x off)):BH L tm b9 K (.a5 x off) st:=by
 simp only[XE]at h;split at h
 ·rename_i key t i j e
  exact BH.val hr _ (λ C=>by simp only[c8,hr.ev e (by intro e;cases e),F7,F6,F8,CS,DU,HV,EK,GV,HB]) h
 ·rename_i cs e
  rw[GE]at h;exact BH.val hr _ (λ C=>by simp only[c8,hr.ev e (by intro e;cases e),F7,F6,F8,CS,DU,HV,EK,GV,HB]) h
 ·exact h.elim
theorem sN {x:AM} {off n:Nat} {agg:Bool} (hr:RX σ tm M st) (h:XE L tm M b9 K (.ja x off n agg)):BH L tm b9 K (.ja x off n agg) st:=by
 simp only[XE]at h;split at h
 ·rename_i cs e
  split at h
  ·rename_i ds hp
   rw[GE]at h;obtain ⟨v,h1,h2⟩:=NU σ h;exact BH.val hr v (λ C=>by simp only[c8,hr.ev e (by intro e;cases e),GV,TC hp,h1,Option.map_some]) h2
  ·exact h.elim
 ·exact h.elim
theorem sP {arr:Option Nat} {z:Nat} {x i:AM} (hr:RX σ tm M st) (h:XE L tm M b9 K (.a9 arr z x i)):BH L tm b9 K (.a9 arr z x i) st:=by
 simp only[XE]at h;split at h
 ·rename_i kd n e1
  split at h
  ·rename_i len key t i' j e2
   obtain ⟨h1,h2⟩:=h;exact BH.val hr _ (λ C=>by simp only[c8,hr.ev e1 (by intro e;cases e),hr.ev e2 (by intro e;cases e),F7,F6,F8,CS,DU,HV,EK,GV,HB];rw[if_pos h1]) h2
  ·rename_i len cs e2
   obtain ⟨h1,h2⟩:=h;rw[GE]at h2;exact BH.val hr _ (λ C=>by simp only[c8,hr.ev e1 (by intro e;cases e),hr.ev e2 (by intro e;cases e),F7,F6,F8,CS,DU,HV,EK,GV,HB];rw[if_pos h1]) h2
  ·rename_i key t z' off len e2
   cases hz:Nat.beq z' z<;>simp only[hz,cond_true,cond_false]at h;obtain ⟨h1,h2⟩:=h;exact BH.val hr _ (λ C=>by simp only[c8,hr.ev e1 (by intro e;cases e),hr.ev e2 (by intro e;cases e),F7,F6,F8,CS,DU,HV,EK,GV,HB];rw[if_pos ⟨h1.1,h1.2,BD.1 hz⟩]) h2
  ·rename_i q es e2
   obtain ⟨h1,cs,h2,h3,h4⟩:=h;exact BH.val hr _ (λ C=>by simp only[c8,hr.ev e1 (by intro e;cases e),hr.ev e2 (by intro e;cases e),F7,F6,F8,CS,DU,HV,EK,GV,HB,h2];rw[if_pos h1,if_pos h3]) h4
  ·exact h.elim
 ·exact h.elim
theorem sQ {len z:Nat} {agg:Bool} {x i:AM} (hr:RX σ tm M st) (h:XE L tm M b9 K (.idx len z agg x i)):BH L tm b9 K (.idx len z agg x i) st:=by
 simp only[XE]at h;split at h
 ·rename_i kd n cs e1 e2
  obtain ⟨h0,h⟩:=h;split at h
  ·rename_i ds hp
   rw[GE]at h;obtain ⟨v,h1,h2⟩:=NU σ h;exact BH.val hr v (λ C=>by simp only[c8,hr.ev e1 (by intro e;cases e),hr.ev e2 (by intro e;cases e),F7,F6,F8,CS,DU,HV,EK,GV,HB,TC hp,h1,Option.map_some];rw[if_pos h0]) h2
  ·exact h.elim
 ·exact h.elim
theorem Q9 {s:Nat} {own:AH} : ∀ {b9:List Nat},OS s b9=true->own.l9 b9 s=own s
 | [],_=>rfl
 | b::r,h=>by
  have hm:NS s (b::r)=false:=by simpa [OS] using h
  have : ∀ l:List Nat,NS s l=false->own.l9 l s=own s:=by
   intro l;induction l with
   | nil=>intro _;rfl
   | cons b r ih =>
    intro h;simp only[NS]at h;cases hb:Nat.beq s b<;>simp only[hb,cond_true,cond_false]at h
    ·simp only[AH.l9]
     rw[if_neg (E2.1 hb)];exact ih h
    ·cases h
  exact this _ hm
theorem Z7 {s:Nat} {own:AH} (hs:EC s=true) : ∀ {b9:List Nat},PY b9=true->own.l9 b9 s=own s
 | [],_=>rfl
 | b::r,h=>by
  simp only[PY]at h;cases hb:EC b<;>simp only[hb,cond_true,cond_false]at h
  ·have k8:s≠b:=λ e=>by rw[e,hb]at hs;cases hs
   show (if s=b then _ else own.l9 r s)=own s;rw[if_neg k8];exact Z7 hs h
  ·cases h
theorem sS {agg:Bool} {n:Nat} {x:AM} (hr:RX σ tm M st) (h:XE L tm M b9 K (.ld agg n x)):BH L tm b9 K (.ld agg n x) st:=by
 simp only[XE]at h;split at h
 ·rename_i key t i j e
  split at h
  ·rename_i s c hm
   have hs:=hr.sat.site _ _ _ hm;split at h
   ·cases hb:OS s b9<;>simp only[hb,cond_true,cond_false]at h
    have q8:=hr.sat.e8 _ _ _ (DY hm);rw[hs]at q8;split at h
    ·rename_i cs
     cases hi:Nat.beq i 0<;>simp only[hi,cond_true,cond_false]at h;obtain rfl:=BD.1 hi;split at h
     ·rename_i ds hp
      rw[GE]at h;obtain ⟨v,h1,h2⟩:=NU σ h;exact BH.val hr v (λ C=>by
       simp only[c8,hr.ev e (by intro e;cases e),DU,AH.kb,AH.get,hs];rw[Q9 hb,q8];simp only[A3.e8,List.getElem?_cons_zero,TC hp,h1,Option.map_some]) h2
     ·exact h.elim
    ·rename_i z es
     obtain ⟨cs,ds,g1,g2,h⟩:=h;rw[GE]at h;cases hd:DW ds<;>simp only[hd,cond_true,cond_false]at h;obtain ⟨v,h1,h2⟩:=NU σ h;rw[H2 hd]at h1;exact BH.val hr v (λ C=>by
      simp only[c8,hr.ev e (by intro e;cases e),DU,AH.kb,AH.get,hs];rw[Q9 hb,q8];simp only[A3.e8,g1,g2,h1,Option.map_some]) h2
    ·rename_i z es
     split at h
     ·rename_i cs g1
      split at h
      ·rename_i ds hp
       rw[GE]at h;obtain ⟨v,h1,h2⟩:=NU σ h;exact BH.val hr v (λ C=>by
        simp only[c8,hr.ev e (by intro e;cases e),DU,AH.kb,AH.get,hs];rw[Q9 hb,q8];simp only[A3.e8,List.getElem?_map,g1,Option.map_some,TC hp,h1]) h2
      ·exact h.elim
     ·exact h.elim
    ·rename_i rows
     cases hj:Nat.beq j 0<;>simp only[hj,cond_true,cond_false]at h;cases hn:Nat.beq n 1<;>simp only[hn,cond_true,cond_false]at h;obtain rfl:=BD.1 hj;obtain rfl:=BD.1 hn;obtain ⟨r,g1,h⟩:=h;have fin : ∀ c:AV,(BT σ key 0 rows)[i]? = some [A7 σ c]->kg agg [c] (λ v=>K v M)->BH L tm b9 K (.ld agg 1 x) st:=by
      intro c hc h;obtain ⟨v,h1,h2⟩:=NU σ h;have hp:part [A7 σ c] 0 1=some [A7 σ c]:=by simp [part]
      exact BH.val hr v (λ C=>by
       simp only[c8,hr.ev e (by intro e;cases e),DU,AH.kb,AH.get,hs];rw[Q9 hb,q8];simp only[A3.e8,hc,hp];simp only[List.map_cons,List.map_nil]at h1;simp only[h1,Option.map_some]) h2
     split at h
     ·rename_i z es
      exact fin _ (by rw[EZ,g1];simp [A7]) h
     ·exact fin _ (by rw[EZ,g1];simp [A7]) h
    ·exact h.elim
    ·exact h.elim
   ·rename_i i'
    split at h
    ·rename_i rows
     obtain ⟨z,es,g0,cs,ds,g1,g2,h⟩:=h;rw[GE]at h;cases hd:DW ds<;>simp only[hd,cond_true,cond_false]at h;obtain ⟨v,h1,h2⟩:=NU σ h;rw[H2 hd]at h1;have q8:=hr.sat.e8 key (i'+1) (.rw z es) (by simp [c6,hm,g0]);exact BH.val hr v (λ C=>by
      simp only[c8,hr.ev e (by intro e;cases e),DU,AH.kb,AH.get,AH.l9];rw[q8];simp only[A3.e8,g1,g2,h1,Option.map_some]) h2
    ·rename_i rows b r
     cases hb:PY (b::r)<;>simp only[hb,cond_true,cond_false]at h;obtain ⟨z,es,g0,cs,ds,g1,g2,h⟩:=h;rw[GE]at h;cases hd:DW ds<;>simp only[hd,cond_true,cond_false]at h;obtain ⟨v,h1,h2⟩:=NU σ h;rw[H2 hd]at h1;have g':c6 M key (i'+1)=some (.rw z es):=by simp [c6,hm,g0]
     have q8:=hr.sat.e8 key (i'+1) (.rw z es) g';have bg:=hr.sat.low key (i'+1) _ g' rfl;exact BH.val hr v (λ C=>by
      simp only[c8,hr.ev e (by intro e;cases e),DU,AH.kb,AH.get];rw[Z7 bg hb,q8];simp only[A3.e8,g1,g2,h1,Option.map_some]) h2
    ·exact h.elim
  ·exact h.elim
 ·rename_i cs e
  split at h
  ·rename_i ds hp
   rw[GE]at h;cases hd:DW ds<;>simp only[hd,cond_true,cond_false]at h;obtain ⟨v,h1,h2⟩:=NU σ h;rw[H2 hd]at h1;exact BH.val hr v (λ C=>by simp only[c8,hr.ev e (by intro e;cases e),HV,hp,h1,Option.map_some]) h2
  ·exact h.elim
 ·exact h.elim
theorem dL {n:Nat} {x v:AM} (hr:RX σ tm M st) (h:XE L tm M b9 K (.st n x v)):BH L tm b9 K (.st n x v) st:=by
 simp only[XE,bX]at h;split at h
 ·rename_i key t i j e
  obtain ⟨h0,vs,hc,h5⟩:=VJ h;clear h;cases hn:Nat.beq vs.length n<;>simp only[hn,cond_true,cond_false]at h5;have ln:=BD.1 hn;split at h5
  ·rename_i s c hm
   have hs:=hr.sat.site _ _ _ hm;split at h5
   ·have q8:=hr.sat.e8 _ _ _ (DY hm)
    rw[hs]at q8;split at h5
    ·rename_i cs
     cases hi:Nat.beq i 0<;>simp only[hi,cond_true,cond_false]at h5;obtain rfl:=BD.1 hi;have hl:Nat.ble (j+vs.length) cs.length=true:=by
      cases hl:Nat.ble (j+vs.length) cs.length
      ·rw[hl]at h5;exact h5.elim
      ·rfl
     rw[hl]at h5;simp only[cond_true,GE]at h5;refine ⟨.z0 (.j5 []) (st.own.put s ((st.own s).m7 (σ key 0).2 (some (A3.e8 σ key (.bx (splice cs j vs)))))),σ,_,_,λ C => ?_,h5,rfl,hr.Cv hm trivial _ trivial (λ h=>nomatch h)⟩;simp only[c8,hr.ev e (by intro e;cases e),DU,hr.ev rfl h0,MP hc,List.length_map];rw[if_pos ln];simp only[AH.gi,AH.get,hs,q8,A3.e8,List.getElem?_cons_zero,List.length_map];rw[if_pos (Nat.le_of_ble_eq_true hl)];simp only[Option.map_some,List.set_cons_zero,oE];have:(splice cs j vs).length=cs.length:=by
      have:=Nat.le_of_ble_eq_true hl
      simp only[splice,List.length_append,List.length_take,List.length_drop];omega
     rw[this]
    ·rename_i z es
     cases hd:DW vs<;>simp only[hd,cond_true,cond_false]at h5;obtain ⟨cs,g1,g2,h5⟩:=h5;refine ⟨.z0 (.j5 []) (st.own.put s ((st.own s).m7 (σ key 0).2 (some (A3.e8 σ key (.rw z (es.set i (splice cs j vs))))))),σ,_,_,λ C => ?_,h5,rfl,hr.Cv hm trivial _ trivial (λ_=>rfl)⟩;simp only[c8,hr.ev e (by intro e;cases e),DU,hr.ev rfl h0,MP hc,H2 hd];rw[if_pos ln];simp only[AH.gi,AH.get,hs,q8,A3.e8,g1];rw[if_pos g2];rfl
    ·exact h5.elim
    ·rename_i rows
     split at h5
     ·rename_i q7 z m
      cases fe:Nat.beq key q7<;>simp only[fe,cond_true,cond_false]at h5;cases aj:MR key tm<;>simp only[aj,cond_true,cond_false]at h5;cases oh:I4 key M<;>simp only[oh,cond_true,cond_false]at h5;cases hj:Nat.beq j 0<;>simp only[hj,cond_true,cond_false]at h5;obtain rfl:=BD.1 hj;split at h5
      ·rename_i s2 z' es dp
       cases hz:Nat.beq z z'<;>simp only[hz,cond_true,cond_false]at h5;obtain rfl:=BD.1 hz;rw[I8]at h5;obtain ⟨rfl,hi,h5⟩:=h5;have hlen:(BT σ key 0 rows)[i]? = some ((BT σ key 0 rows)[i]'(by rw[EO];exact hi)):=zE _;have cp:((BT σ key 0 rows)[i]'(by rw[EO];exact hi)).length=1:=by
        have:=EZ (σ:=σ) (k:=key) rows 0 i
        rw[hlen,zE hi]at this;simp only[Option.map_some,Option.some.injEq]at this;rw[this];split<;>rfl
       refine ⟨.z0 (.j5 []) (st.own.put s ((st.own s).m7 (σ key 0).2 (some ⟨1,(BT σ key 0 rows).set i [.row (σ q7 0).1 (σ q7 0).2 z 0 es.length]⟩))),_,_,_,λ C => ?_,h5,rfl,hr.vu hm (Or.inl rfl) dp (E2.1 fe) aj oh hi⟩;simp only[c8,hr.ev e (by intro e;cases e),DU,hr.ev rfl h0,MP hc,List.length_map];rw[if_pos ln];simp only[AH.gi,AH.get,hs,q8,A3.e8,hlen,List.map_cons,List.map_nil,List.length_cons,List.length_nil,A7];rw[if_pos (by omega)];simp only[Option.map_some];have Ar:splice ((BT σ key 0 rows)[i]'(by rw[EO];exact hi)) 0 [.row (σ q7 0).1 (σ q7 0).2 z 0 es.length]=[.row (σ q7 0).1 (σ q7 0).2 z 0 es.length]:=by
        simp only[splice,List.take_zero,List.nil_append,List.length_cons,List.length_nil,Nat.zero_add];rw[List.drop_of_length_le (by omega)];rfl
       rw[Ar]
      ·exact h5.elim
     ·rename_i q7 t2 z m
      cases fe:Nat.beq key q7<;>simp only[fe,cond_true,cond_false]at h5;cases hj:Nat.beq j 0<;>simp only[hj,cond_true,cond_false]at h5;obtain rfl:=BD.1 hj;obtain rfl:=BD.1 fe;obtain ⟨z',es,g0,h5⟩:=h5;cases hz:Nat.beq z z'<;>simp only[hz,cond_true,cond_false]at h5;obtain rfl:=BD.1 hz;obtain ⟨⟨rfl,hi⟩,h5⟩:=h5;have o7:A3.e8 σ key (.vw ((List.range rows.length).set i t2) rows)=⟨1,(BT σ key 0 rows).set i [.row (σ key (t2+1)).1 (σ key (t2+1)).2 z 0 es.length]⟩:=by
       simp only[A3.e8];congr 1;apply List.ext_getElem?;intro p;rw[List.getElem?_map];by_cases hp:i=p
       ·subst hp
        rw[List.getElem?_set_self (by rw[List.length_range];exact hi),List.getElem?_set_self (by rw[EO];exact hi),Option.map_some,EZ,g0];simp
       ·rw[List.getElem?_set_ne hp,List.getElem?_set_ne hp,EZ]
        by_cases xm:p<rows.length
        ·rw[List.getElem?_range xm,Option.map_some,EZ,zE xm,Option.map_some,Option.getD_some]
        ·rw[List.getElem?_eq_none (by rw[List.length_range];omega),List.getElem?_eq_none (by omega)];rfl
      have hv:=hr.view (w:=(List.range rows.length).set i t2) hm (Or.inl rfl);have hlen:(BT σ key 0 rows)[i]? = some ((BT σ key 0 rows)[i]'(by rw[EO];exact hi)):=zE _;have cp:((BT σ key 0 rows)[i]'(by rw[EO];exact hi)).length=1:=by
       have:=EZ (σ:=σ) (k:=key) rows 0 i
       rw[hlen,zE hi]at this;simp only[Option.map_some,Option.some.injEq]at this;rw[this];split<;>rfl
      refine ⟨.z0 (.j5 []) (st.own.put s ((st.own s).m7 (σ key 0).2 (some (A3.e8 σ key (.vw ((List.range rows.length).set i t2) rows))))),_,_,_,λ C => ?_,h5,rfl,hv⟩;rw[o7];simp only[c8,hr.ev e (by intro e;cases e),DU,hr.ev rfl h0,MP hc,List.length_map];rw[if_pos ln];simp only[AH.gi,AH.get,hs,q8,A3.e8,hlen,List.map_cons,List.map_nil,List.length_cons,List.length_nil,A7];rw[if_pos (by omega)];simp only[Option.map_some];have Ar:splice ((BT σ key 0 rows)[i]'(by rw[EO];exact hi)) 0 [.row (σ key (t2+1)).1 (σ key (t2+1)).2 z 0 es.length]=[.row (σ key (t2+1)).1 (σ key (t2+1)).2 z 0 es.length]:=by
       simp only[splice,List.take_zero,List.nil_append,List.length_cons,List.length_nil,Nat.zero_add];rw[List.drop_of_length_le (by omega)];rfl
      rw[Ar]
     ·exact h5.elim
    ·rename_i i0 v0 rows
     split at h5
     ·rename_i q7 z m
      cases fe:Nat.beq key q7<;>simp only[fe,cond_true,cond_false]at h5;cases aj:MR key tm<;>simp only[aj,cond_true,cond_false]at h5;cases oh:I4 key M<;>simp only[oh,cond_true,cond_false]at h5;cases hj:Nat.beq j 0<;>simp only[hj,cond_true,cond_false]at h5;obtain rfl:=BD.1 hj;split at h5
      ·rename_i s2 z' es dp
       cases hz:Nat.beq z z'<;>simp only[hz,cond_true,cond_false]at h5;obtain rfl:=BD.1 hz;rw[I8]at h5;obtain ⟨⟨rfl,rfl⟩,hi,h5⟩:=h5;refine ⟨.z0 (.j5 []) (st.own.put s ((st.own s).m7 (σ key 0).2 (some ⟨1,(BT σ key 0 rows).set i [.row (σ q7 0).1 (σ q7 0).2 z 0 es.length]⟩))),_,_,_,λ C => ?_,h5,rfl,hr.vu hm (Or.inr ⟨v0,rfl⟩) dp (E2.1 fe) aj oh hi⟩;simp only[c8,hr.ev e (by intro e;cases e),DU,hr.ev rfl h0,MP hc,List.length_map];rw[if_pos ln];simp only[AH.gi,AH.get,hs,q8,A3.e8,List.getElem?_set_self (show i<(BT σ key 0 rows).length by rw[EO];exact hi),List.map_cons,List.map_nil,List.length_cons,List.length_nil,A7];rw[if_pos (by omega)];simp only[Option.map_some,List.set_set];rfl
      ·exact h5.elim
     ·exact h5.elim
    ·rename_i w rows
     split at h5
     ·rename_i q7 t2 z m
      cases fe:Nat.beq key q7<;>simp only[fe,cond_true,cond_false]at h5;cases hj:Nat.beq j 0<;>simp only[hj,cond_true,cond_false]at h5;obtain rfl:=BD.1 hj;obtain rfl:=BD.1 fe;obtain ⟨z',es,g0,h5⟩:=h5;cases hz:Nat.beq z z'<;>simp only[hz,cond_true,cond_false]at h5;obtain rfl:=BD.1 hz;obtain ⟨⟨rfl,hi,Wq⟩,h5⟩:=h5;have o7:A3.e8 σ key (.vw (w.set i t2) rows)=⟨1,(w.map λ t=>((BT σ key 0 rows)[t]?).getD []).set i [.row (σ key (t2+1)).1 (σ key (t2+1)).2 z 0 es.length]⟩:=by
       simp only[A3.e8];congr 1;apply List.ext_getElem?;intro p;rw[List.getElem?_map];by_cases hp:i=p
       ·subst hp
        rw[List.getElem?_set_self hi,List.getElem?_set_self (by rw[List.length_map];exact hi),Option.map_some,EZ,g0];simp
       ·rw[List.getElem?_set_ne hp,List.getElem?_set_ne hp,List.getElem?_map]
      have hv:=hr.view (w:=w.set i t2) hm (Or.inr ⟨w,rfl⟩);have hlen:(w.map λ t=>((BT σ key 0 rows)[t]?).getD [])[i]? = some ((w.map λ t=>((BT σ key 0 rows)[t]?).getD [])[i]'(by rw[List.length_map];exact hi)):=zE _;have cp:((w.map λ t=>((BT σ key 0 rows)[t]?).getD [])[i]'(by rw[List.length_map];exact hi)).length=1:=by
       rw[List.getElem_map];have l6:=Wq w[i] (List.getElem_mem hi);rw[EZ,zE l6];simp only[Option.map_some,Option.getD_some];split<;>rfl
      refine ⟨.z0 (.j5 []) (st.own.put s ((st.own s).m7 (σ key 0).2 (some (A3.e8 σ key (.vw (w.set i t2) rows))))),_,_,_,λ C => ?_,h5,rfl,hv⟩;rw[o7];simp only[c8,hr.ev e (by intro e;cases e),DU,hr.ev rfl h0,MP hc,List.length_map];rw[if_pos ln];simp only[AH.gi,AH.get,hs,q8,A3.e8,hlen,List.map_cons,List.map_nil,List.length_cons,List.length_nil,A7];rw[if_pos (by omega)];simp only[Option.map_some];have Ar:splice ((w.map λ t=>((BT σ key 0 rows)[t]?).getD [])[i]'(by rw[List.length_map];exact hi)) 0 [.row (σ key (t2+1)).1 (σ key (t2+1)).2 z 0 es.length]=[.row (σ key (t2+1)).1 (σ key (t2+1)).2 z 0 es.length]:=by
       simp only[splice,List.take_zero,List.nil_append,List.length_cons,List.length_nil,Nat.zero_add];rw[List.drop_of_length_le (by omega)];rfl
      rw[Ar]
     ·exact h5.elim
   ·rename_i i'
    split at h5
    ·rename_i rows
     cases hd:DW vs<;>simp only[hd,cond_true,cond_false]at h5;obtain ⟨z,es,g0,cs,g1,g2,g3,h5⟩:=h5;have q8:=hr.sat.e8 key (i'+1) (.rw z es) (by simp [c6,hm,g0]);refine ⟨.z0 (.j5 []) (st.own.put (σ key (i'+1)).1 ((st.own (σ key (i'+1)).1).m7 (σ key (i'+1)).2 (some ⟨z,es.set i (splice cs j vs)⟩))),σ,_,_,λ C => ?_,h5,rfl,hr.Gl hm g0 g3⟩;simp only[c8,hr.ev e (by intro e;cases e),DU,hr.ev rfl h0,MP hc,H2 hd];rw[if_pos ln];simp only[AH.gi,AH.get,q8,A3.e8,g1];rw[if_pos g2];rfl
    ·exact h5.elim
  ·exact h5.elim
 ·exact h.elim
theorem sU {s z bytes:Nat} {zero:List AV} {a c:AM} (hr:RX σ tm M st) (h:XE L tm M b9 K (.mk s z bytes zero a c)):BH L tm b9 K (.mk s z bytes zero a c) st:=by
 simp only[XE]at h;split at h
 ·rename_i k1 p k2 q e1 e2
  cases hz:Nat.beq zero.length z<;>simp only[hz,cond_true,cond_false]at h;cases hd:DW zero<;>simp only[hd,cond_true,cond_false]at h;split at h
  ·cases bg:EC s<;>simp only[bg,cond_true,cond_false]at h
   obtain ⟨⟨g1,g2,g3,g4⟩,h⟩:=h;obtain ⟨k,h1,h2,h3⟩:=FY h;have cn:A3.flat (.mx (List.replicate p.toNat none)):=by
    intro i x hx;have:=List.getElem?_replicate (n:=p.toNat) (a:=(none:Option (Nat × List (List AV)))) (i:=i)
    rw[this]at hx;split at hx<;>cases hx
   have fk:z=1:=(BD.1 hz).symm;have sj:A3.e8 σ k (.mx (List.replicate p.toNat none))=⟨z,List.replicate p.toNat [.nil]⟩:=by
    simp only[A3.e8,fk];congr 1;have : ∀ (n i:Nat),BT σ k i (List.replicate n none)=List.replicate n [AV.nil]:=by
     intro n;induction n with
     | zero=>intro i;rfl
     | succ n ih=>intro i;rw[List.replicate_succ,List.replicate_succ,BT,ih]
    exact this _ _
   refine ⟨.new s (A3.e8 σ k (.mx (List.replicate p.toNat none))) (λ t => .row s t z 0 p.toNat),_,_,_,λ C => ?_,h3,?_,hr.al h1 h2 (.mx _) cn rfl (λ_=>bg)⟩
   ·simp only[c8,hr.ev e1 (by intro e;cases e),hr.ev e2 (by intro e;cases e),F7,sj]
    rw[if_pos ⟨g1,g2,g3,g4,BD.1 hz⟩]
   ·simp only[BW.res,CS,BP]
  ·cases bg:EC s<;>simp only[bg,cond_true,cond_false]at h
   obtain ⟨⟨g1,g2,g3,g4⟩,h⟩:=h;obtain ⟨k,h1,h2,h3⟩:=FY h;refine ⟨.new s ⟨z,List.replicate p.toNat zero⟩ (λ t => .row s t z 0 p.toNat),_,_,_,λ C => ?_,h3,?_,hr.al h1 h2 (.rw z _) trivial rfl (λ_=>bg)⟩
   ·simp only[c8,hr.ev e1 (by intro e;cases e),hr.ev e2 (by intro e;cases e),F7]
    rw[if_pos ⟨g1,g2,g3,g4,BD.1 hz⟩]
   ·simp only[BW.res,CS,BP]
 ·exact h.elim
theorem jL {v:AV} {K:AV->Prop} (h:f2 v K):v ≠ .any/\BB σ v=BO σ v/\K v:=by
 cases v<;>simp only[f2,GE]at h<;>first|exact h.elim|exact ⟨(by intro e;cases e),rfl,h⟩
theorem kX : ∀ (vs:List AV) (i:Nat),rq vs i ≠ .any->vs[i]? = some (rq vs i)
 | [],_,h=>absurd rfl h
 | _::_,0,_=>rfl
 | _::r,i+1,h=>kX r i h
theorem sL {x:AM} {i:Nat} (hr:RX σ tm M st) (h:XE L tm M b9 K (.ext x i)):BH L tm b9 K (.ext x i) st:=by
 simp only[XE]at h;split at h
 ·rename_i vs e
  obtain ⟨h1,h2,h3⟩:=jL (σ:=σ) h;refine BH.val hr _ (λ C => ?_) h3;simp only[c8,hr.ev e (by intro e;cases e),HB,List.getElem?_map,kX vs i h1,Option.map_some,h2]
 ·exact h.elim
theorem sT {x:AM} (hr:RX σ tm M st) (h:XE L tm M b9 K (.len x)):BH L tm b9 K (.len x) st:=by
 simp only[XE]at h;split at h
 ·rename_i q es e
  exact BH.val hr _ (λ C=>by simp only[c8,hr.ev e (by intro e;cases e),F8,lenOf];rfl) h
 ·rename_i e
  exact BH.val hr _ (λ C=>by simp only[c8,hr.ev e (by intro e;cases e),EK,lenOf];rfl) h
 ·rename_i e
  exact BH.val hr _ (λ C=>by simp only[c8,hr.ev e (by intro e;cases e),CS,lenOf];rfl) h
 ·exact h.elim
theorem lP {mx:Bool} {k:IntKind} {K:AV->Prop} : ∀ {l:List AV} {a:Int},PV mx k K a l -> ∃ n,JB mx (.int k a) l=some (.int k n)/\K (.int k n)/\(∀ v∈l,v ≠ .any/\BB σ v=v)
 | [],a,h=>⟨a,rfl,h,λ v hv=>by cases hv⟩
 | v::r,a,h=>by
  cases v with
  | int k' b =>
   have h:(bif mx then AF (a<b) (b<=a) (PV mx k K b r) (PV mx k K a r) else AF (b<a) (a<=b) (PV mx k K b r) (PV mx k K a r)):=h;have fin : ∀ c:Int,NT mx (.int k a) (.int k' b)=some (.int k c)->PV mx k K c r -> ∃ n,JB mx (.int k a) (.int k' b::r)=some (.int k n)/\K (.int k n)/\(∀ v∈AV.int k' b::r,v ≠ .any/\BB σ v=v):=by
    intro c hc hx;obtain ⟨n,h1,h2,h3⟩:=lP hx;refine ⟨n,by simp only[JB,hc,h1],h2,λ v hv => ?_⟩;rcases List.mem_cons.1 hv with rfl|hv
    ·exact ⟨(by intro e;cases e),rfl⟩
    ·exact h3 v hv
   cases mx
   ·simp only[cond_false]at h
    by_cases hc:b<a
    ·exact fin b (by simp [NT,hc]) (h.1 hc)
    ·exact fin a (by simp [NT,hc]) (h.2 (by omega))
   ·simp only[cond_true]at h
    by_cases hc:a<b
    ·exact fin b (by simp [NT,hc]) (h.1 hc)
    ·exact fin a (by simp [NT,hc]) (h.2 (by omega))
  | _=>exact (h:False).elim
theorem sW {mx:Bool} {xs:List AM} (hr:RX σ tm M st) (h:XE L tm M b9 K (.mm mx xs)):BH L tm b9 K (.mm mx xs) st:=by
 simp only[XE]at h;split at h
 ·rename_i k a r e
  obtain ⟨n,h1,h2,h3⟩:=lP (σ:=σ) h;refine BH.val hr (.int k n) (λ C => ?_) h2;have hx : ∀ v∈OJ tm xs,v ≠ .any:=by
   rw[e];intro v hv;rcases List.mem_cons.1 hv with rfl|hv
   ·intro e;cases e
   ·exact (h3 v hv).1
  have hm:(OJ tm xs).map (BB σ) = .int k a::r:=by
   rw[e,List.map_cons];congr 1;conv=>rhs;rw[<-List.map_id r]
   exact List.map_congr_left λ v hv=>(h3 v hv).2
  simp only[c8];rw[show xs.map st.ev = .int k a::r from (yJ hr hx).trans hm];simp only[h1,Option.map_some,F7]
 ·exact h.elim
theorem Pa (hr:RX σ tm M st) {k t:Nat} {K:Nat->List (List AV)->Prop} (h:aQ M k t K) : ∃ z es,(st.own (σ k t).1).e8 (σ k t).2=some ⟨z,es⟩/\K z es:=by
 unfold aQ at h;split at h
 ·rename_i s c hm
  split at h
  ·split at h
   ·exact ⟨_,_,hr.sat.e8 _ _ _ (DY hm),h⟩
   ·exact h.elim
  ·rename_i i
   split at h
   ·rename_i rows
    obtain ⟨z,es,g,h⟩:=h;exact ⟨z,es,hr.sat.e8 k (i+1) (.rw z es) (by simp [c6,hm,g]),h⟩
   ·exact h.elim
 ·exact h.elim
theorem Sr {own l8:AH} {s t i j:Nat} {vs:List AV} (h:own.gi s t i j vs=some l8):own.put s (l8 s)=l8:=by
 unfold AH.gi at h;cases hg:own.get s t with
 | none=>simp [hg]at h
 | some b =>
  simp only[hg]at h;cases he:b.es[i]? with
  | none=>simp [he]at h
  | some cs =>
   simp only[he]at h;split at h
   ·obtain rfl:=Option.some.inj h
    rw[AH.j4]
   ·cases h
theorem tE {s n:Nat} {x v:AM} (hr:RX σ tm M st) (h:XE L tm M b9 K (.jl s n x v)):BH L tm b9 K (.jl s n x v) st:=by
 simp only[XE]at h;split at h
 ·rename_i key i j e1
  split at h
  ·rename_i s' c hm
   cases hb:Nat.beq s' s<;>simp only[hb,cond_true,cond_false]at h;obtain rfl:=BD.1 hb;have cb:=hr.sat.site _ _ _ hm;obtain ⟨E,σ',v',M',h1,h2,h3,h4⟩:=dL (b9:=b9) (L:=L) hr (show XE L tm M b9 K (.st n x v) from h);have u6:=hr.ev e1 (by intro e;cases e);rw[DU,cb]at u6;have key : ∀ vs,cellsOf (st.ev v)=some vs->vs.length=n -> ∃ o',st.own.gi s' (σ key 0).2 i j vs=some o'/\E = .z0 (.j5 []) o':=λ vs et hn=>by
    have:=h1 0
    simp only[c8,u6,et]at this;rw[if_pos hn,Option.map_eq_some_iff]at this;obtain ⟨o',a1,a2⟩:=this;exact ⟨o',a1,a2.symm⟩
   cases et:cellsOf (st.ev v) with
   | none=>have:=h1 0;simp [c8,u6,et]at this
   | some vs =>
    by_cases hn:vs.length=n
    ·obtain ⟨o',a1,rfl⟩:=key vs et hn
     refine ⟨.m7 s' (o' s'),σ',v',M',λ C => ?_,h2,h3,?_⟩
     ·simp only[c8,u6,et]
      rw[if_pos ⟨trivial,hn⟩,a1];rfl
     ·have e2:(BW.res st.own (.m7 s' (o' s'))).2=o':=Sr a1
      rw[e2];exact h4
    ·have:=h1 0
     simp only[c8,u6,et]at this;rw[if_neg hn]at this;cases this
  ·exact h.elim
 ·exact h.elim
theorem sR {ne:Bool} {x:AM} (hr:RX σ tm M st) (h:XE L tm M b9 K (.mr ne x)):BH L tm b9 K (.mr ne x) st:=by
 simp only[XE]at h;split at h
 ·rename_i e1
  rw[NN]at h;exact BH.val hr _ (λ C=>by simp only[c8,hr.ev e1 (by intro e;cases e),EK,F6]) h
 ·rename_i b e1
  rw[NN]at h;exact BH.val hr _ (λ C=>by simp only[c8,hr.ev e1 (by intro e;cases e),Pb,F6]) h
 ·rename_i q es e1
  obtain ⟨h0,h⟩:=h;rw[NN]at h;cases es with
  | nil=>exact absurd rfl h0
  | cons e es=>exact BH.val hr _ (λ C=>by simp only[c8,hr.ev e1 (by intro e;cases e),F8,F6]) h
 ·rename_i s t z o n e1
  obtain ⟨h0,h⟩:=h;rw[NN]at h;cases n with
  | zero=>exact absurd h0 (by omega)
  | succ n=>exact BH.val hr _ (λ C=>by simp only[c8,hr.ev e1 (by intro e;cases e),CS,F6]) h
 ·exact h.elim
theorem sY {x:AM} (hr:RX σ tm M st) (h:XE L tm M b9 K (.nm x)):BH L tm b9 K (.nm x) st:=by
 simp only[XE]at h;split at h
 ·rename_i key t i j e
  exact BH.val hr _ (λ C=>by simp only[c8,hr.ev e (by intro e;cases e),DU]) h
 ·exact h.elim
theorem sI {x:AM} (hr:RX σ tm M st) (h:XE L tm M b9 K (.dd x)):BH L tm b9 K (.dd x) st:=by
 simp only[XE]at h;split at h
 ·rename_i e
  exact BH.val hr _ (λ C=>by simp only[c8,hr.ev e (by intro e;cases e),EK];rfl) h
 ·exact h.elim
theorem sC {s z bytes:Nat} {x y:AM} (hr:RX σ tm M st) (h:XE L tm M b9 K (.jn s z bytes x y)):BH L tm b9 K (.jn s z bytes x y) st:=by
 simp only[XE]at h;split at h
 ·rename_i k n e1 e2
  cases bg:EC s<;>simp only[bg,cond_true,cond_false]at h;obtain ⟨⟨g1,g2,g3⟩,h⟩:=h;obtain ⟨k,h1,h2,h3⟩:=FY h;refine ⟨.new s ⟨z,[]⟩ (λ t => .row s t z 0 n.toNat),_,_,_,λ C => ?_,h3,?_,hr.al h1 h2 (.rw z []) trivial rfl (λ_=>bg)⟩
  ·simp only[c8,hr.ev e1 (by intro e;cases e),hr.ev e2 (by intro e;cases e),F7,EK]
   rw[if_pos ⟨g1,g2,g3⟩]
  ·simp only[BW.res,CS,BP]
 ·exact h.elim
theorem rW {s z bytes:Nat} {x y:AM} (hr:RX σ tm M st) (h:XE L tm M b9 K (.jm s z bytes x y)):BH L tm b9 K (.jm s z bytes x y) st:=by
 simp only[XE]at h;split at h
 ·rename_i q ys e1 e2
  cases bg:EC s<;>simp only[bg,cond_true,cond_false]at h;obtain ⟨g1,g2,g3,g4,h⟩:=h;obtain ⟨k,h1,h2,h3⟩:=FY h;refine ⟨.new s ⟨z,ys⟩ (λ t => .row s t z 0 ys.length),_,_,_,λ C => ?_,h3,?_,hr.al h1 h2 (.rw z ys) trivial rfl (λ_=>bg)⟩
  ·simp only[c8,hr.ev e1 (by intro e;cases e),hr.ev e2 (by intro e;cases e),EK,F8]
   rw[if_pos ⟨g1,g4,g2,g3⟩]
  ·simp only[BW.res,CS,BP]
 ·exact h.elim
theorem tC {tb:List Nat} {x:AM} (hr:RX σ tm M st) (h:XE L tm M b9 K (.ct tb x)):BH L tm b9 K (.ct tb x) st:=by
 simp only[XE]at h;split at h
 ·rename_i k n e1
  obtain ⟨h0,v,h1,h2⟩:=h;exact BH.val hr _ (λ C=>by simp only[c8,hr.ev e1 (by intro e;cases e),F7,h1];rw[if_pos h0]) h2
 ·exact h.elim
theorem Lw {v:AV} {K:AV->Prop} (h:fF v K):v ≠ .any/\GF (BB σ v)=some (A7 σ v)/\K v:=by
 cases v<;>first|exact (h:False).elim|exact ⟨(by intro e;cases e),rfl,h⟩
theorem lY (hr:RX σ tm M st) : ∀ {l:List AM} {K:List AV->Prop},Z4 tm l K -> ∃ cs,l.mapM (λ x=>GF (st.ev x))=some (cs.map (A7 σ))/\K cs
 | [],K,h=>⟨[],rfl,h⟩
 | x::r,K,h=>by
  obtain ⟨h0,hc,h⟩:=Lw (σ:=σ) (show fF (ex tm x) λ v=>Z4 tm r λ cs=>K (v::cs) from h);obtain ⟨cs,h1,h2⟩:=lY hr h;refine ⟨ex tm x::cs,?_,h2⟩;rw[List.mapM_cons,h1,hr.ev rfl h0,hc];rfl
theorem sV {p:Bool} {f:Nat} {xs:List AM} (hr:RX σ tm M st) (h:XE L tm M b9 K (.kf p f xs)):BH L tm b9 K (.kf p f xs) st:=by
 simp only[XE]at h;obtain ⟨cs,h1,h2⟩:=lY hr h;exact BH.val hr _ (λ C=>by simp only[c8,h1,Option.map_some,aR];rfl) h2
theorem iA (hr:RX σ tm M st) {v:AV} {K:List (List AV)->Prop} (h:SI M v K):v ≠ .any /\ ∃ es,DT st.own (BB σ v)=some es/\K es:=by
 cases v with
 | sl q es=>exact ⟨(by intro e;cases e),_,rfl,h⟩
 | nil=>exact ⟨(by intro e;cases e),_,rfl,h⟩
 | z9 v =>
  cases v with
  | bool b=>exact ⟨(by intro e;cases e),_,rfl,h⟩
  | _=>exact (h:False).elim
 | row key t z off len =>
  simp only[SI]at h;obtain ⟨z',es,g,h⟩:=Pa hr h;cases hz:Nat.beq z z'<;>simp only[hz,cond_true,cond_false]at h;obtain rfl:=BD.1 hz;refine ⟨(by intro e;cases e),_,?_,h.2⟩;simp only[CS,DT,AH.get,g];rw[if_pos ⟨h.1,trivial⟩]
 | _=>exact (h:False).elim
theorem Z5 (hr:RX σ tm M st) {o:Option AM} {K:Option Int->Prop} (h:VY tm o K):(o=none/\K none) \/ ∃ x k n,o=some x/\st.ev x = .int k n/\K (some n):=by
 unfold VY at h;split at h
 ·exact Or.inl ⟨rfl,h⟩
 ·split at h
  ·rename_i e
   exact Or.inr ⟨_,_,_,rfl,hr.ev e (by intro e;cases e),h⟩
  ·exact h.elim
theorem tD {z:Nat} {x:AM} {lo hi:Option AM} (hr:RX σ tm M st) (h:XE L tm M b9 K (.dc z x lo hi)):BH L tm b9 K (.dc z x lo hi) st:=by
 simp only[XE]at h;have go : ∀ (a b:Option Int),(match ex tm x with
   | .sl l es=>B2 z es a b λ es=>K (.sl l es) M
   | .row key t z' off len=>bif Nat.beq z' z then BK a b len λ a h=>K (.row key t z (off+a) (h-a)) M else False
   | .nil=>(match a,b with
    | none,none=>K .nil M
    | some a,none=>AU (a=0) (K .nil M)
    | none,some h=>AU (h=0) (K .nil M)
    | some a,some h=>AU (a=0/\h=0) (K .nil M))
   | _=>False)->(lo=none/\a=none \/ ∃ y k n,lo=some y/\st.ev y = .int k n/\a=some n)->(hi=none/\b=none \/ ∃ y k n,hi=some y/\st.ev y = .int k n/\b=some n)->BH L tm b9 K (.dc z x lo hi) st:=by
  intro a b h ha hb;split at h
  ·rename_i q es e
   obtain ⟨g1,a',h',g2,g3,g4,h⟩:=h;refine BH.val hr _ (λ C => ?_) h;rcases ha with ⟨rfl,rfl⟩|⟨y,k,n,rfl,e1,rfl⟩<;>rcases hb with ⟨rfl,rfl⟩|⟨y',k',n',rfl,e2,rfl⟩<;>try simp only at g2 g3<;>simp only[c8,hr.ev e (by intro e;cases e),F8, *]<;>simp_all
  ·rename_i key t z' off len e
   cases hz:Nat.beq z' z<;>simp only[hz,cond_true,cond_false]at h;obtain rfl:=BD.1 hz;obtain ⟨a',h',g2,g3,g4,h⟩:=h;refine BH.val hr _ (λ C => ?_) h;rcases ha with ⟨rfl,rfl⟩|⟨y,k,n,rfl,e1,rfl⟩<;>rcases hb with ⟨rfl,rfl⟩|⟨y',k',n',rfl,e2,rfl⟩<;>try simp only at g2 g3<;>simp only[c8,hr.ev e (by intro e;cases e),CS, *]<;>simp_all
  ·rename_i e
   rcases ha with ⟨rfl,rfl⟩|⟨y,k,n,rfl,e1,rfl⟩<;>rcases hb with ⟨rfl,rfl⟩|⟨y',k',n',rfl,e2,rfl⟩<;>simp only at h
   ·exact BH.val hr .nil (λ C=>by simp only[c8,hr.ev e (by intro e;cases e),EK]) h
   ·exact BH.val hr .nil (λ C=>by simp only[c8,hr.ev e (by intro e;cases e),EK,e2,h.1,if_true]) h.2
   ·exact BH.val hr .nil (λ C=>by simp only[c8,hr.ev e (by intro e;cases e),EK,e1,h.1,if_true]) h.2
   ·exact BH.val hr .nil (λ C=>by simp only[c8,hr.ev e (by intro e;cases e),EK,e1,e2,h.1.1,h.1.2,if_true]) h.2
  ·exact h.elim
 rcases Z5 hr h with ⟨h1,h⟩|⟨y,k,n,h1,h2,h⟩
 ·rcases Z5 hr h with ⟨g1,h⟩|⟨y,k,n,g1,g2,h⟩
  ·exact go _ _ h (Or.inl ⟨h1,rfl⟩) (Or.inl ⟨g1,rfl⟩)
  ·exact go _ _ h (Or.inl ⟨h1,rfl⟩) (Or.inr ⟨_,_,_,g1,g2,rfl⟩)
 ·rcases Z5 hr h with ⟨g1,h⟩|⟨y',k',n',g1,g2,h⟩
  ·exact go _ _ h (Or.inr ⟨_,_,_,h1,h2,rfl⟩) (Or.inl ⟨g1,rfl⟩)
  ·exact go _ _ h (Or.inr ⟨_,_,_,h1,h2,rfl⟩) (Or.inr ⟨_,_,_,g1,g2,rfl⟩)
theorem TK {s key:Nat} : ∀ {M:Mem},F5 s M=false->F5 s (n0 key M)=false
 | [],_=>rfl
 | (i,s0,c0)::r,h=>by
  simp only[F5]at h;cases q0:Nat.beq s i<;>simp only[q0,cond_true,cond_false]at h
  ·cases q1:GH s c0<;>simp only[q1,cond_true,cond_false]at h
   ·simp only[n0]
    cases Nat.beq key i
    ·simp only[cond_false,F5,q0,q1,TK h]
    ·simp only[cond_true,TK h]
   ·cases h
  ·cases h
theorem rY {s z bytes:Nat} {x y:AM} (hr:RX σ tm M st) (h:SI M (ex tm y) λ ys=>match ex tm x with
   | .row key 0 z' off len=>bif Nat.beq off 0 then bif Nat.beq z' z then (match c7 M key with
    | some (s',.rw y5 es)=>bif Nat.beq y5 z then fM (n0 key M) λ M'=>(BR es len ys z bytes λ es' n=>E1 s tm M λ k=>K (.row k 0 z 0 n) ((k,s',.rw z es')::M')) else False
    | _=>False) else False else False
   | .row key (i+1) z' off len=>bif Nat.beq off 0 then bif Nat.beq z' z then (match c7 M key with
    | some (sk,.mx rows)=>fM (n0 key M) λ M'=>B4 rows i λ y5 es=>bif Nat.beq y5 z then (BR es len ys z bytes λ es' n => ∀ s' v,E1 s tm M λ k=>K (.row k 0 z 0 n) ((k,s',.rw z es')::(key,sk,.hx i v (rows.set i none))::M')) else False
    | _=>False) else False else False
   | .nil=>bif EC s then B0 ys z bytes λ es n=>E1 s tm M λ k=>K (.row k 0 z 0 n) ((k,s,.rw z es)::M) else False
   | _=>False):BH L tm b9 K (.app s z bytes x y) st:=by
 obtain ⟨h0,ys,hy,h⟩:=iA hr h;have qo:DT st.own (st.ev y)=some ys:=by rw[hr.ev rfl h0];exact hy
 split at h
 ·rename_i key z' off len e
  cases ho:Nat.beq off 0<;>simp only[ho,cond_true,cond_false]at h;cases hz:Nat.beq z' z<;>simp only[hz,cond_true,cond_false]at h;obtain rfl:=BD.1 ho;obtain rfl:=BD.1 hz;split at h
  ·rename_i s' y5 es hm
   cases lv:Nat.beq y5 z'<;>simp only[lv,cond_true,cond_false]at h;obtain rfl:=BD.1 lv;rw[I8]at h;obtain ⟨g1,g2,g3,g4,h⟩:=h;obtain ⟨k,h1,h2,h3⟩:=FY h;have hs:=hr.sat.site _ _ _ hm;have q8:=hr.sat.e8 _ _ _ (DY hm);have hn:=(hr.kill hm).al (s:=k) (q:=s') (TK h1) h2 (.rw y5 (es.take len++ys)) trivial rfl (λ_=>by have:=hr.sat.low _ _ _ (DY hm) rfl;rwa [hs]at this);have nv:(st.own.put s' ((st.own s').m7 (σ key 0).2 none)).g7 s'=st.own.g7 s':=by simp [AH.g7,AH.j4,BX.m7]
   simp only[AH.j4,AH.du,nv]at hn;refine ⟨.z0 (.row s' (st.own.g7 s') y5 0 (len+ys.length)) (st.own.put s' (((st.own s').m7 (σ key 0).2 none).new ⟨y5,es.take len++ys⟩)),_,_,_,λ C => ?_,h3,?_,hn⟩
   ·rw[hs]at q8
    simp only[c8,qo,hr.ev e (by intro e;cases e),CS,AH.get,hs,q8,A3.e8];rw[if_pos g2,if_pos ⟨trivial,trivial,g1,g3,g4⟩]
   ·simp only[BW.res,CS,BP]
  ·exact h.elim
 ·rename_i key i z' off len e
  cases ho:Nat.beq off 0<;>simp only[ho,cond_true,cond_false]at h;cases hz:Nat.beq z' z<;>simp only[hz,cond_true,cond_false]at h;obtain rfl:=BD.1 ho;obtain rfl:=BD.1 hz;split at h
  ·rename_i sk rows hm
   rw[I8]at h;obtain ⟨y5,es,g0,h⟩:=h;cases lv:Nat.beq y5 z'<;>simp only[lv,cond_true,cond_false]at h;obtain rfl:=BD.1 lv;obtain ⟨g1,g2,g3,g4,h⟩:=h;have h:=h (σ key (i+1)).1 (.row (σ key (i+1)).1 (σ key (i+1)).2 y5 0 es.length);obtain ⟨k,h1,h2,h3⟩:=FY h;have q8:=hr.sat.e8 key (i+1) (.rw y5 es) (by simp [c6,hm,g0]);have hn:=hr.Cy (s:=k) (es':=es.take len++ys) hm g0 h1 h2;refine ⟨.z0 (.row (σ key (i+1)).1 (st.own.g7 (σ key (i+1)).1) y5 0 (len+ys.length)) (st.own.put (σ key (i+1)).1 (((st.own (σ key (i+1)).1).m7 (σ key (i+1)).2 none).new ⟨y5,es.take len++ys⟩)),_,_,_,λ C => ?_,h3,?_,hn⟩
   ·simp only[c8,qo,hr.ev e (by intro e;cases e),CS,AH.get,q8,A3.e8]
    rw[if_pos g2,if_pos ⟨trivial,trivial,g1,g3,g4⟩]
   ·simp only[BW.res,CS,BP]
  ·exact h.elim
 ·rename_i e
  cases bg:EC s<;>simp only[bg,cond_true,cond_false]at h;obtain ⟨g2,g3,g4,h⟩:=h;obtain ⟨k,h1,h2,h3⟩:=FY h;refine ⟨.z0 (.row s (st.own.g7 s) z 0 ys.length) (st.own.put s ((st.own s).new ⟨z,ys⟩)),_,_,_,λ C => ?_,h3,?_,hr.al h1 h2 (.rw z ys) trivial rfl (λ_=>bg)⟩
  ·simp only[c8,qo,hr.ev e (by intro e;cases e),EK]
   rw[if_pos g2,if_pos ⟨g3,g4⟩]
  ·simp only[BW.res,CS,BP]
 ·exact h.elim
theorem sB {s z bytes:Nat} {x y:AM} (hr:RX σ tm M st) (h:XE L tm M b9 K (.az s z bytes x y)):BH L tm b9 K (.az s z bytes x y) st:=by
 simp only[XE]at h;split at h
 ·rename_i l ys ey
  split at h
  ·rename_i key z' off len e
   cases ho:Nat.beq off 0<;>simp only[ho,cond_true,cond_false]at h;cases hz:Nat.beq z' z<;>simp only[hz,cond_true,cond_false]at h;obtain rfl:=BD.1 ho;obtain rfl:=BD.1 hz;split at h
   ·rename_i s' y5 es hm
    cases gu:Nat.beq s' s<;>simp only[gu,cond_true,cond_false]at h;cases lv:Nat.beq y5 z'<;>simp only[lv,cond_true,cond_false]at h;obtain rfl:=BD.1 gu;obtain rfl:=BD.1 lv;rw[I8]at h;obtain ⟨g1,g2,g3,g4,h⟩:=h;obtain ⟨k,h1,h2,h3⟩:=FY h;have hs:=hr.sat.site _ _ _ hm;have q8:=hr.sat.e8 _ _ _ (DY hm);have hn:=(hr.kill hm).al (s:=k) (q:=s') (TK h1) h2 (.rw y5 (es.take len++ys)) trivial rfl (λ_=>by have:=hr.sat.low _ _ _ (DY hm) rfl;rwa [hs]at this);have nv:(st.own.put s' ((st.own s').m7 (σ key 0).2 none)).g7 s'=st.own.g7 s':=by simp [AH.g7,AH.j4,BX.m7]
    simp only[AH.j4,AH.du,nv]at hn;refine ⟨.nr s' (((st.own s').m7 (σ key 0).2 none).new ⟨y5,es.take len++ys⟩) (.row s' (st.own.g7 s') y5 0 (len+ys.length)),_,_,_,λ C => ?_,h3,?_,hn⟩
    ·rw[hs]at q8
     simp only[c8,hr.ev ey (by intro e;cases e),F8,hr.ev e (by intro e;cases e),CS,AH.get,hs,q8,A3.e8];rw[if_pos ⟨trivial,g2,trivial,trivial,g1,g3,g4⟩]
    ·simp only[BW.res,CS,BP]
   ·exact h.elim
  ·exact h.elim
 ·exact h.elim
theorem tN {v:AV} {ky k2 z n:Nat} (h:PB M v=some (ky,some (k2,z,n))):v = .row ky 0 1 0 1 /\ ∃ sy,c7 M ky=some (sy,.bs 1 [[.row k2 0 z 0 n]]):=by
 unfold PB at h;split at h
 ·split at h
  ·rename_i hm
   simp only[Option.some.injEq,Prod.mk.injEq]at h;obtain ⟨rfl,rfl,rfl,rfl⟩:=h;exact ⟨rfl,_,hm⟩
  ·simp at h
  ·cases h
 ·cases h
theorem tM {v:AV} {ky:Nat} (h:PB M v=some (ky,none)):v = .row ky 0 1 0 1 /\ ∃ sy,c7 M ky=some (sy,.rw 1 [[.nil]]):=by
 unfold PB at h;split at h
 ·split at h
  ·simp at h
  ·rename_i hm
   simp only[Option.some.injEq,Prod.mk.injEq,and_true]at h;subst h;exact ⟨rfl,_,hm⟩
  ·cases h
 ·cases h
theorem kW {z:Nat} : ∀ {es:List (List AV)},S2 z es=true -> ∀ e∈es,e.length=z
 | [],_,e,he=>by cases he
 | a::r,h,e,he=>by
  simp only[S2]at h;cases h1:Nat.beq a.length z<;>simp only[h1,cond_true,cond_false]at h
  ·cases h
  ·rcases List.mem_cons.1 he with rfl|he
   ·exact BD.1 h1
   ·exact kW h e he
theorem mZ {k:Nat} {b:List (List AV)} (r2:H9 k b=false) : ∀ {a:List (List AV)},H9 k a=false->H9 k (a++b)=false
 | [],_=>r2
 | c::a,h=>by
  simp only[H9,List.cons_append]at h ⊢;cases hq:G9 k c<;>simp only[hq,cond_true,cond_false]at h ⊢
  ·exact mZ r2 h
  ·cases h
theorem sA {s z bytes:Nat} {x y:AM} (hr:RX σ tm M st) (h:XC tm M s z bytes x y K):BH L tm b9 K (.app s z bytes x y) st:=by
 unfold XC at h;split at h
 ·rename_i ky zy ny ey
  split at h
  ·rename_i sy z2 fm lk
   cases a1:Nat.beq zy z<;>simp only[a1,cond_true,cond_false]at h;cases a2:Nat.beq z2 z<;>simp only[a2,cond_true,cond_false]at h;cases a3:Nat.beq ny fm.length<;>simp only[a3,cond_true,cond_false]at h;cases a4:S2 z fm<;>simp only[a4,cond_true,cond_false]at h;have b1:=BD.1 a1;have b2:=BD.1 a2;have b3:=BD.1 a3;subst b1 b2 b3;have fj:=hr.sat.site _ _ _ lk;have gm:=hr.sat.e8 _ _ _ (DY lk);rw[fj]at gm
   have tv:DT st.own (st.ev y)=some (fm.map λ cs=>cs.map (A7 σ)):=by
    rw[hr.ev ey (by intro e;cases e)];simp only[CS,DT,AH.get,fj,gm,A3.e8];rw[if_pos (by simp),List.drop_zero,List.take_of_length_le (by simp)]
   have dw : ∀ e∈fm.map (λ cs=>cs.map (A7 σ)),e.length=z2:=λ e he=>by
    obtain ⟨c,hc,rfl⟩:=List.mem_map.1 he;rw[List.length_map];exact kW a4 c hc
   split at h
   ·rename_i e
    cases bg:EC s<;>simp only[bg,cond_true,cond_false]at h;obtain ⟨⟨g3,g4⟩,h⟩:=ZS h;obtain ⟨k,h1,h2,h3⟩:=FY h;have xq:GH k (.bs z2 fm)=false:=(M4 h1 _ _ _ lk).2;refine ⟨.z0 (.row s (st.own.g7 s) z2 0 fm.length) (st.own.put s ((st.own s).new ⟨z2,fm.map λ cs=>cs.map (A7 σ)⟩)),_,_,_,λ C => ?_,h3,?_,hr.al h1 h2 (.bs z2 fm) trivial xq (λ_=>bg)⟩
    ·simp only[c8,tv,hr.ev e (by intro e;cases e),EK]
     rw[if_pos dw,if_pos ⟨by simpa [EA] using g3,by simpa using g4⟩,List.length_map]
    ·simp only[BW.res,CS,BP]
   ·rename_i kx zx len e
    cases c1:Nat.beq zx z2<;>simp only[c1,cond_true,cond_false]at h;split at h
    ·rename_i s' z1 qe hm
     cases c2:Nat.beq z1 z2<;>simp only[c2,cond_true,cond_false]at h;cases c3:Nat.beq len qe.length<;>simp only[c3,cond_true,cond_false]at h;have d1:=BD.1 c1;have d2:=BD.1 c2;have d3:=BD.1 c3;subst d1 d3;rw[I8]at h;obtain ⟨⟨g3,g4⟩,h⟩:=ZS h;obtain ⟨k,h1,h2,h3⟩:=FY h;have hs:=hr.sat.site _ _ _ hm;have q8:=hr.sat.e8 _ _ _ (DY hm);have r1:H9 k qe=false:=(M4 h1 _ _ _ hm).2;have r2:H9 k fm=false:=(M4 h1 _ _ _ lk).2;have xq:GH k (.bs zx (qe++fm))=false:=by
      exact mZ r2 r1
     have hn:=(hr.kill hm).al (s:=k) (q:=s') (TK h1) h2 (.bs zx (qe++fm)) trivial xq (λ_=>by have:=hr.sat.low _ _ _ (DY hm) rfl;rwa [hs]at this);have nv:(st.own.put s' ((st.own s').m7 (σ kx 0).2 none)).g7 s'=st.own.g7 s':=by simp [AH.g7,AH.j4,BX.m7]
     simp only[AH.j4,AH.du,nv,A3.e8,List.map_append]at hn;rw[hs]at q8;refine ⟨.z0 (.row s' (st.own.g7 s') zx 0 (qe.length+fm.length)) (st.own.put s' (((st.own s').m7 (σ kx 0).2 none).new ⟨zx,qe.map (λ cs=>cs.map (A7 σ))++fm.map λ cs=>cs.map (A7 σ)⟩)),_,_,_,λ C => ?_,h3,?_,hn⟩
     ·simp only[c8,tv,hr.ev e (by intro e;cases e),CS,AH.get,hs,q8,A3.e8]
      rw[if_pos dw,if_pos ⟨d2,trivial,by simp,by simpa [EA] using g3,by simpa using g4⟩,List.take_of_length_le (by simp),List.length_map]
     ·simp only[BW.res,CS,BP,List.length_append]
    ·exact h.elim
   ·exact h.elim
  ·exact h.elim
 ·exact h.elim
theorem rX {s z bytes:Nat} {x y:AM} (hr:RX σ tm M st) (h:XE L tm M b9 K (.app s z bytes x y)):BH L tm b9 K (.app s z bytes x y) st:=by
 simp only[XE]at h;cases hV:Nat.ble 800000 s<;>simp only[hV,cond_true,cond_false]at h;rotate_left
 ·exact sA hr h
 split at h
 ·rename_i ky k2 z2 n2 Dy
  obtain ⟨iu,sy,lk⟩:=tN Dy;have fj:=hr.sat.site _ _ _ lk;have gm:=hr.sat.e8 _ _ _ (DY lk);rw[fj]at gm
  have tv:DT st.own (st.ev y)=some [[.row (σ k2 0).1 (σ k2 0).2 z2 0 n2]]:=by
   rw[hr.ev iu (by intro e;cases e)];simp only[CS,DT,AH.get,fj,gm,A3.e8,A7,List.map_cons,List.map_nil,List.length_cons,List.length_nil];simp
  split at h
  ·rename_i key z' off len e
   cases ho:Nat.beq off 0<;>simp only[ho,cond_true,cond_false]at h;cases hz:Nat.beq z' 1<;>simp only[hz,cond_true,cond_false]at h;cases fk:Nat.beq z 1<;>simp only[fk,cond_true,cond_false]at h;cases fh:Nat.beq key k2<;>simp only[fh,cond_true,cond_false]at h;cases En:Nat.beq key ky<;>simp only[En,cond_true,cond_false]at h;cases Vc:Nat.beq k2 ky<;>simp only[Vc,cond_true,cond_false]at h;obtain rfl:=BD.1 ho;obtain rfl:=BD.1 hz;obtain rfl:=BD.1 fk;split at h
   ·rename_i s2 z3 es dp
    cases Bb:Nat.beq z2 z3<;>simp only[Bb,cond_true,cond_false]at h;obtain rfl:=BD.1 Bb;split at h
    ·rename_i s' rows hm
     rw[I8]at h;obtain ⟨rfl,rfl,g3,g4,h⟩:=h;obtain ⟨k,h1,h2,h3⟩:=FY h;have hs:=hr.sat.site _ _ _ hm;have q8:=hr.sat.e8 _ _ _ (DY hm);rw[hs]at q8;refine ⟨.z0 (.row s' (st.own.g7 s') 1 0 (rows.length+1)) (st.own.put s' (((st.own s').m7 (σ key 0).2 none).new ⟨1,BT σ key 0 rows++[[.row (σ k2 0).1 (σ k2 0).2 z2 0 es.length]]⟩)),_,_,_,λ C => ?_,h3,?_,hr.Cz (ky:=ky) hm dp (E2.1 fh) h1 h2⟩
     ·simp only[c8,tv,hr.ev e (by intro e;cases e),CS,AH.get,hs,q8,A3.e8]
      rw[if_pos (by simp),if_pos ⟨trivial,trivial,by rw[EO];exact Nat.le_refl _,by simpa using g3,by simpa using g4⟩];rw[List.take_of_length_le (by rw[EO];exact Nat.le_refl _)];rfl
     ·simp only[BW.res,CS,BP]
    ·exact h.elim
   ·exact h.elim
  ·rename_i e
   cases bg:EC s<;>simp only[bg,cond_true,cond_false]at h;cases fk:Nat.beq z 1<;>simp only[fk,cond_true,cond_false]at h;obtain rfl:=BD.1 fk;split at h
   ·rename_i s2 z3 es dp
    cases Bb:Nat.beq z2 z3<;>simp only[Bb,cond_true,cond_false]at h;obtain rfl:=BD.1 Bb;rw[I8]at h;obtain ⟨⟨rfl,g3⟩,h⟩:=h;obtain ⟨k,h1,h2,h3⟩:=FY h;obtain ⟨σ',q1,q2⟩:=hr.Gk (q:=s) dp (λ e=>(M4 h1 _ _ _ dp).1 e.symm) h1 h2 bg;refine ⟨.z0 (.row s (st.own.g7 s) 1 0 1) (st.own.put s ((st.own s).new ⟨1,[[.row (σ k2 0).1 (σ k2 0).2 z2 0 es.length]]⟩)),σ',_,_,λ C => ?_,h3,?_,q2⟩
    ·simp only[c8,tv,hr.ev e (by intro e;cases e),EK]
     rw[if_pos (by simp),if_pos ⟨by simpa [EA] using g3,by simp⟩];rfl
    ·simp only[BW.res,CS,q1]
   ·exact h.elim
  ·exact h.elim
 ·rename_i ky Dy
  obtain ⟨iu,sy,lk⟩:=tM Dy;have fj:=hr.sat.site _ _ _ lk;have gm:=hr.sat.e8 _ _ _ (DY lk);rw[fj]at gm
  have tv:DT st.own (st.ev y)=some [[.nil]]:=by
   rw[hr.ev iu (by intro e;cases e)];simp only[CS,DT,AH.get,fj,gm,A3.e8,List.length_cons,List.length_nil];simp
  split at h
  ·rename_i key z' off len e
   cases ho:Nat.beq off 0<;>simp only[ho,cond_true,cond_false]at h;cases hz:Nat.beq z' 1<;>simp only[hz,cond_true,cond_false]at h;cases fk:Nat.beq z 1<;>simp only[fk,cond_true,cond_false]at h;cases En:Nat.beq key ky<;>simp only[En,cond_true,cond_false]at h;obtain rfl:=BD.1 ho;obtain rfl:=BD.1 hz;obtain rfl:=BD.1 fk;split at h
   ·rename_i s' rows hm
    rw[I8]at h;obtain ⟨rfl,g3,g4,h⟩:=h;obtain ⟨k,h1,h2,h3⟩:=FY h;have hs:=hr.sat.site _ _ _ hm;have q8:=hr.sat.e8 _ _ _ (DY hm);rw[hs]at q8;refine ⟨.z0 (.row s' (st.own.g7 s') 1 0 (rows.length+1)) (st.own.put s' (((st.own s').m7 (σ key 0).2 none).new ⟨1,BT σ key 0 rows++[[.nil]]⟩)),_,_,_,λ C => ?_,h3,?_,hr.Da hm h1 h2⟩
    ·simp only[c8,tv,hr.ev e (by intro e;cases e),CS,AH.get,hs,q8,A3.e8]
     rw[if_pos (by simp),if_pos ⟨trivial,trivial,by rw[EO];exact Nat.le_refl _,by simpa using g3,by simpa using g4⟩];rw[List.take_of_length_le (by rw[EO];exact Nat.le_refl _)];rfl
    ·simp only[BW.res,CS,BP]
   ·exact h.elim
  ·rename_i e
   cases bg:EC s<;>simp only[bg,cond_true,cond_false]at h;cases fk:Nat.beq z 1<;>simp only[fk,cond_true,cond_false]at h;obtain rfl:=BD.1 fk;obtain ⟨g3,h⟩:=h;obtain ⟨k,h1,h2,h3⟩:=FY h;have cn:A3.flat (.mx [none]):=by
    intro i x hx;cases i with
    | zero=>simp at hx
    | succ i=>simp at hx
   refine ⟨.z0 (.row s (st.own.g7 s) 1 0 1) (st.own.put s ((st.own s).new ⟨1,[[.nil]]⟩)),_,_,_,λ C => ?_,h3,?_,hr.al h1 h2 (.mx [none]) cn rfl (λ_=>bg)⟩
   ·simp only[c8,tv,hr.ev e (by intro e;cases e),EK]
    rw[if_pos (by simp),if_pos ⟨by simpa [EA] using g3,by simp⟩];rfl
   ·simp only[BW.res,CS,BP]
  ·exact h.elim
 ·exact rY hr h
theorem sK {z:Nat} {x y:AM} (hr:RX σ tm M st) (h:XE L tm M b9 K (.jq z x y)):BH L tm b9 K (.jq z x y) st:=by
 simp only[XE]at h;obtain ⟨h0,ys,hy,h⟩:=iA hr h;have qo:DT st.own (st.ev y)=some ys:=by rw[hr.ev rfl h0];exact hy
 split at h
 ·rename_i key z' off len e
  cases hz:Nat.beq z' z<;>simp only[hz,cond_true,cond_false]at h;obtain rfl:=BD.1 hz;split at h
  ·rename_i s' y5 es hm
   cases lv:Nat.beq y5 z'<;>simp only[lv,cond_true,cond_false]at h;obtain rfl:=BD.1 lv;obtain ⟨g1,g2,h⟩:=h;have hs:=hr.sat.site _ _ _ hm;have q8:=hr.sat.e8 _ _ _ (DY hm);refine ⟨.z0 (.int .i64 (min ys.length len:Nat)) (st.own.put s' ((st.own s').m7 (σ key 0).2 (some ⟨y5,es.take off++ys.take len++es.drop (off+min ys.length len)⟩))),_,_,_,λ C => ?_,h,rfl,hr.Cv hm trivial (.rw y5 _) trivial (λ_=>rfl)⟩;rw[hs]at q8;simp only[c8,qo,hr.ev e (by intro e;cases e),CS,AH.get,hs,q8,A3.e8];rw[if_pos ⟨trivial,trivial,g1,g2⟩]
  ·exact h.elim
 ·exact h.elim
end
end Go.c4
