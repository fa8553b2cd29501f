/-
  The walk by computation is sound.
-/
import Derived.Test.YtgdojcofnobpeaaGreatB5
set_option linter.unusedSimpArgs false
set_option linter.unusedVariables false
set_option linter.unnecessarySimpa false
namespace Go.Eng
theorem DI {a b:Nat}:Nat.beq a b=true↔a=b:=⟨Nat.eq_of_beq_eq_true,λ h=>by subst h;simp⟩
theorem IE {a b:Nat}:Nat.beq a b=false↔a≠b:=by
 constructor
 ·exact Nat.ne_of_beq_eq_false
 ·intro h
  cases e:Nat.beq a b
  ·rfl
  ·exact absurd (Nat.eq_of_beq_eq_true e) h
theorem NG (j:Nat) : ∀ tm:Tm,tg tm j=c9 tm j
 | []=>rfl
 | (i,v)::r=>by
  simp only[tg,dV,NG j r];cases e:Nat.beq j i
  ·rw[if_neg (IE.1 e)];rfl
  ·rw[if_pos (DI.1 e)];rfl
theorem J6 : ∀ (l:List AV) (K:List AV->Prop),fL l K=K l
 | [],_=>rfl
 | v::r,K=>by rw[fL,J6 r]
theorem ZT : ∀ (l:Tm) (K:Tm->Prop),fT l K=K l
 | [],_=>rfl
 | (i,v)::r,K=>by rw[fT,ZT r]
theorem N3 : ∀ (l:Mem) (K:Mem->Prop),fM l K=K l
 | [],_=>rfl
 | (k,s,c)::r,K=>by rw[fM,N3 r]
theorem Yj (n:Nat) (K:Nat->Prop):fN n K=K n:=by cases n<;>rfl
theorem kU (m i:Nat):bit m i=m.testBit i:=by
 have h:Nat.land (Nat.shiftRight m i) 1=(m >>> i)%2:=Nat.and_one_is_mod (m >>> i);have ht:m.testBit i=decide ((m >>> i)%2=1):=by
  rw[Nat.testBit,Nat.and_comm,Nat.and_one_is_mod];rcases Nat.mod_two_eq_zero_or_one (m >>> i) with e|e<;>simp [e]
 unfold bit;rw[h,ht];rcases Nat.mod_two_eq_zero_or_one (m >>> i) with e|e<;>rw[e]<;>rfl
theorem tD (m i j:Nat):bit (Nat.lor m (Nat.shiftLeft 1 i)) j=(bit m j||decide (j=i)):=by
 rw[kU,kU];show (m ||| (1 <<< i)).testBit j=_;rw[Nat.testBit_or,Nat.testBit_shiftLeft];congr 1;by_cases h:j=i
 ·subst h;simp
 ·by_cases h2:j≥i
  ·obtain ⟨d,rfl⟩ : ∃ d,j=i+d+1:=⟨j-i-1,by omega⟩
   rw[show i+d+1-i=d+1 by omega,Nat.testBit_succ];simp [h]
  ·simp [h2,h]
theorem tC : ∀ (ts:List Nat) (m j:Nat),bit (mask m ts) j=(bit m j||ts.contains j)
 | [],m,j=>by simp [mask]
 | t::ts,m,j=>by
  rw[mask,tC ts,tD,List.contains_cons,Bool.or_assoc];congr 2
theorem kV (j:Nat):bit 0 j=false:=by rw[kU];simp
theorem dT (j:Nat) : ∀ (tm:Tm) (m:Nat),tg (mo m tm) j=bif bit m j then .any else tg tm j
 | [],m=>by cases bit m j<;>rfl
 | (i,v)::r,m=>by
  simp only[mo];cases hb:bit m i
  ·simp only[cond_false,tg,dT j r,tD]
   cases hj:Nat.beq j i
   ·have:decide (j=i)=false:=by simpa using IE.1 hj
    simp only[cond_false,this,Bool.or_false]
   ·obtain rfl:=DI.1 hj
    simp only[cond_true,hb,cond_false]
  ·simp only[cond_true,tg,dT j r]
   cases hj:Nat.beq j i
   ·rfl
   ·obtain rfl:=DI.1 hj
    simp only[hb,cond_true]
theorem gT {v:AV} {K:AV->Prop} (h:fV v K):v ≠ .any/\K v:=by
 cases v<;>simp only[fV,J6]at h<;>first|exact h.elim|exact ⟨(by intro e;cases e),h⟩
theorem gS {v:AV} {K:List AV->Prop} (h:fC v K):v ≠ .any /\ ∃ cs,cellsOf v=some cs/\K cs:=by
 cases v<;>simp only[fC,fV,J6]at h<;>first|exact h.elim|exact ⟨(by intro e;cases e),_,rfl,h⟩
theorem U2 (b:Bool) (K:Bool->Prop):fB b K=K b:=by cases b<;>rfl
theorem Gx {k:Nat} {tm:Tm} {M:Mem} (h:used k tm M=false):JQ k M=false/\LA k tm=false:=by
 unfold used at h;cases h1:JQ k M<;>simp only[h1,cond_true,cond_false]at h
 ·exact ⟨rfl,h⟩
 ·cases h
theorem Fj {tm:Tm} {M:Mem} {K:Nat->Prop} : ∀ {l:List Nat},iT tm M l K -> ∃ k,JQ k M=false/\LA k tm=false/\K k
 | [],h=>h.elim
 | k::r,h=>by
  simp only[iT]at h;cases h0:used k tm M<;>simp only[h0,cond_true,cond_false]at h
  ·exact ⟨k,(Gx h0).1,(Gx h0).2,h⟩
  ·exact Fj h
theorem KH {s:Nat} {tm:Tm} {M:Mem} {K:Nat->Prop} (h:I5 s tm M K) : ∃ k,JQ k M=false/\LA k tm=false/\K k:=Fj h
section
variable {σ:II}
def E5 (σ:II) (k:Nat) (f:Nat->Nat × Nat):II:=λ j t=>if j=k then f t else σ j t
theorem EM {k j:Nat} (f:Nat->Nat × Nat) (h:j≠k):E5 σ k f j=σ j:=by funext t;simp [E5,h]
theorem DM (k:Nat) (f:Nat->Nat × Nat):E5 σ k f k=f:=by funext t;simp [E5]
theorem qN {k:Nat} {p:Nat->Nat × Nat} {v:AV} (h:SN k v=false):CZ (E5 σ k p) v=CZ σ v:=by
 cases v with
 | row j t z o n=>simp only[SN]at h;simp only[CZ,EM p (IE.1 h)]
 | ptr j t a b=>simp only[SN]at h;simp only[CZ,EM p (IE.1 h)]
 | _=>rfl
theorem aA {k:Nat} {p:Nat->Nat × Nat} : ∀ {cs:List AV},LU k cs=false->cs.map (CZ (E5 σ k p))=cs.map (CZ σ)
 | [],_=>rfl
 | c::r,h=>by
  simp only[LU]at h;cases h1:SN k c<;>simp only[h1,cond_true,cond_false]at h
  ·rw[List.map_cons,List.map_cons,qN h1,aA h]
  ·cases h
theorem qK {k:Nat} {p:Nat->Nat × Nat} : ∀ {es:List (List AV)},WG k es=false->(es.map λ cs=>cs.map (CZ (E5 σ k p)))=es.map λ cs=>cs.map (CZ σ)
 | [],_=>rfl
 | c::r,h=>by
  simp only[WG]at h;cases h1:LU k c<;>simp only[h1,cond_true,cond_false]at h
  ·rw[List.map_cons,List.map_cons,aA h1,qK h]
  ·cases h
theorem dP {k:Nat} {p:Nat->Nat × Nat} {v:AV} (h:VJ k v=false):DP (E5 σ k p) v=DP σ v:=by
 cases v with
 | agg cs=>simp only[VJ]at h;simp only[DP,aA h]
 | fn p f g cs=>simp only[VJ]at h;simp only[DP,aA h]
 | row a b c d e=>exact qN (v := .row a b c d e) h
 | ptr a b c d=>exact qN (v := .ptr a b c d) h
 | _=>rfl
theorem Hn {k:Nat} {p:Nat->Nat × Nat} : ∀ {cs:List AV},Z7 k cs=false->cs.map (DP (E5 σ k p))=cs.map (DP σ)
 | [],_=>rfl
 | c::r,h=>by
  simp only[Z7]at h;cases h1:VJ k c<;>simp only[h1,cond_true,cond_false]at h
  ·rw[List.map_cons,List.map_cons,dP h1,Hn h]
  ·cases h
theorem jP {k:Nat} {p:Nat->Nat × Nat} {v:AV} (h:SP k v=false):C9 (E5 σ k p) v=C9 σ v:=by
 cases v with
 | tup cs=>simp only[SP]at h;simp only[C9,Hn h]
 | agg cs=>exact dP (v := .agg cs) h
 | fn p f g cs=>exact dP (v := .fn p f g cs) h
 | row a b c d e=>exact dP (v := .row a b c d e) h
 | ptr a b c d=>exact dP (v := .ptr a b c d) h
 | _=>rfl
theorem Z8 {k:Nat} : ∀ {tm:Tm},LA k tm=false -> ∀ j,SP k (tg tm j)=false
 | [],_,_=>rfl
 | (i,v)::r,h,j=>by
  simp only[LA]at h;cases h1:SP k v<;>simp only[h1,cond_true,cond_false]at h
  ·simp only[tg]
   cases Nat.beq j i
   ·exact Z8 h j
   ·exact h1
  ·cases h
theorem YE {k:Nat} : ∀ {M:Mem},JQ k M=false -> ∀ j s c,c5 M j=some (s,c)->j≠k/\K9 k c=false
 | [],_,_,_,_,e=>by cases e
 | (i,s0,c0)::r,h,j,s,c,e=>by
  simp only[JQ]at h;cases h0:Nat.beq k i<;>simp only[h0,cond_true,cond_false]at h
  ·cases h1:K9 k c0<;>simp only[h1,cond_true,cond_false]at h
   ·simp only[c5]at e
    cases h2:Nat.beq j i<;>simp only[h2,cond_true,cond_false]at e
    ·exact YE h j s c e
    ·simp only[Option.some.injEq,Prod.mk.injEq]at e
     obtain ⟨_,rfl⟩:=e;exact ⟨λ e=>IE.1 h0 (e.symm.trans (DI.1 h2)),h1⟩
   ·cases h
  ·cases h
theorem WC {σ σ':II} {k:Nat} : ∀ (rows:List (Option (Nat × List (List AV)))) (i:Nat),(∀ j,i<=j->σ k (j+1)=σ' k (j+1))->DZ σ k i rows=DZ σ' k i rows
 | [],i,h=>rfl
 | none::r,i,h=>by rw[DZ,DZ,WC r (i+1) λ j hj=>h j (by omega)]
 | some (z,es)::r,i,h=>by rw[DZ,DZ,WC r (i+1) λ j hj=>h j (by omega),h i (by omega)]
theorem H0 {k:Nat} : ∀ (rows:List (Option (Nat × List (List AV)))) (i j:Nat),(DZ σ k i rows)[j]? = (rows[j]?).map λ r=>match r with|none=>[.nil]|some (z,es)=>[.row (σ k (i+j+1)).1 (σ k (i+j+1)).2 z 0 es.length]
 | [],i,j=>by simp [DZ]
 | none::r,i,0=>by simp [DZ]
 | none::r,i,j+1=>by simp only[DZ,List.getElem?_cons_succ,H0 r (i+1) j];rw[show i+1+j=i+(j+1) by omega]
 | some (z,es)::r,i,0=>by simp [DZ]
 | some (z,es)::r,i,j+1=>by simp only[DZ,List.getElem?_cons_succ,H0 r (i+1) j];rw[show i+1+j=i+(j+1) by omega]
theorem H1 {k:Nat} : ∀ (rows:List (Option (Nat × List (List AV)))) (i:Nat),(DZ σ k i rows).length=rows.length
 | [],i=>rfl
 | none::r,i=>by simp [DZ,H1 r]
 | some (z,es)::r,i=>by simp [DZ,H1 r]
theorem fH {k j:Nat} {f:Nat->Nat × Nat} {c:CQ} (h:K9 k c=false) (hj:j≠k):c.blk (E5 σ k f) j=c.blk σ j:=by
 cases c with
 | bx cs=>simp only[K9]at h;simp only[CQ.blk,aA h]
 | rw z es=>rfl
 | bs z es=>simp only[K9]at h;simp only[CQ.blk,qK h]
 | mx rows=>simp only[CQ.blk];rw[WC rows 0 λ i _=>by rw[EM f hj]]
 | hx a v rows=>simp only[CQ.blk];rw[WC rows 0 λ i _=>by rw[EM f hj]]
 | vw w rows=>simp only[CQ.blk];rw[WC rows 0 λ i _=>by rw[EM f hj]]
theorem Qj {v:AV} (h:kn v=true):CZ σ v=v:=by cases v<;>first|rfl|cases h
theorem L4 : ∀ {cs:List AV},G1 cs=true->cs.map (CZ σ)=cs
 | [],_=>rfl
 | c::r,h=>by
  simp only[G1]at h;cases h1:kn c<;>simp only[h1,cond_true,cond_false]at h
  ·cases h
  ·rw[List.map_cons,Qj h1,L4 h]
theorem Qi {k:Nat} {v:AV} (h:kn v=true):SN k v=false:=by cases v<;>first|rfl|cases h
theorem lL {k:Nat} : ∀ {cs:List AV},G1 cs=true->LU k cs=false
 | [],_=>rfl
 | c::r,h=>by
  simp only[G1]at h;cases h1:kn c<;>simp only[h1,cond_true,cond_false]at h
  ·cases h
  ·simp only[LU,Qi h1,lL h,cond_false]
theorem Sd (v:AV):cv v = .any\/(cv v=v/\C9 σ v=v):=by
 cases v with
 | agg cs =>
  simp only[cv];cases h:G1 cs
  ·exact Or.inl rfl
  ·exact Or.inr ⟨rfl,by simp only[C9,DP,L4 h]⟩
 | tup vs=>cases vs with
  | nil=>exact Or.inr ⟨rfl,rfl⟩
  | cons=>exact Or.inl rfl
 | fn p f g cs=>cases cs with
  | nil=>exact Or.inr ⟨rfl,rfl⟩
  | cons=>exact Or.inl rfl
 | _=>first|exact Or.inl rfl|exact Or.inr ⟨rfl,rfl⟩
theorem Sa {k:Nat} (v:AV):SP k (cv v)=false:=by
 cases v with
 | agg cs =>
  simp only[cv];cases h:G1 cs
  ·rfl
  ·exact lL h
 | tup vs=>cases vs<;>rfl
 | fn p f g cs=>cases cs<;>rfl
 | _=>rfl
variable {tm:Tm} {M:Mem} {st:St}
theorem RX.ev (h:RX σ tm M st) {x:B8} {v:AV} (e:ex tm x=v) (hv:v ≠ .any):st.ev x=C9 σ v:=by
 cases x with
 | t n =>
  simp only[ex]at e;rcases h.tm n with h|h
  ·exact absurd (e.symm.trans h) hv
  ·rw[e]at h;exact h
 | c u =>
  simp only[ex]at e;rcases Sd (σ:=σ) u with h|⟨h,h'⟩
  ·exact absurd (e.symm.trans h) hv
  ·rw[<-e,h,h'];rfl
theorem yG {k:Nat} (h:LA k tm=false) (x:B8):SP k (ex tm x)=false:=by
 cases x with
 | t n=>exact Z8 h n
 | c u=>exact Sa u
theorem Fx {k:Nat} {v:AV} {cs:List AV} (h:SP k v=false) (e:cellsOf v=some cs):LU k cs=false:=by
 cases v<;>simp only[cellsOf,Option.some.injEq,reduceCtorEq]at e<;>subst e<;>first|exact h|rfl|(simp only[SP,VJ]at h;simp only[LU,h,cond_false])
theorem TR {v:AV} {cs:List AV} (e:cellsOf v=some cs):cellsOf (C9 σ v)=some (cs.map (CZ σ)):=by
 cases v<;>simp only[cellsOf,Option.some.injEq,reduceCtorEq]at e<;>subst e<;>rfl
def CQ.flat:CQ->Prop
 | .mx rows => ∀ (i:Nat) (x:Nat × List (List AV)),rows[i]? = some (some x)->False
 | .hx _ _ _=>False
 | .vw _ _=>False
 | _=>True
theorem GK {M:Mem} {k s:Nat} {c:CQ} (h:c5 M k=some (s,c)):b7 M k 0=some c:=by simp [b7,h]
theorem KQ {M:Mem} {k t:Nat} {c:CQ} (h:b7 M k t=some c) : ∃ s c0,c5 M k=some (s,c0)/\(t=0->c=c0)/\(∀ i,t=i+1 -> ∃ rows z es,((c0 = .mx rows \/ ∃ a v,c0 = .hx a v rows) \/ ∃ w,c0 = .vw w rows)/\rows[i]? = some (some (z,es))/\c = .rw z es):=by
 unfold b7 at h;cases hm:c5 M k with
 | none=>simp [hm]at h
 | some x =>
  obtain ⟨s,c0⟩:=x;simp only[hm]at h;refine ⟨s,c0,rfl,?_,?_⟩
  ·rintro rfl;exact (Option.some.inj h).symm
  ·rintro i rfl
   cases c0 with
   | mx rows =>
    simp only at h;cases hr:rows[i]? with
    | none=>simp [hr]at h
    | some r =>
     cases r with
     | none=>simp [hr]at h
     | some ze=>obtain ⟨z,es⟩:=ze;simp only[hr,Option.some.injEq]at h;exact ⟨rows,z,es,Or.inl (Or.inl rfl),hr,h.symm⟩
   | hx a v rows =>
    simp only at h;cases hr:rows[i]? with
    | none=>simp [hr]at h
    | some r =>
     cases r with
     | none=>simp [hr]at h
     | some ze=>obtain ⟨z,es⟩:=ze;simp only[hr,Option.some.injEq]at h;exact ⟨rows,z,es,Or.inl (Or.inr ⟨a,v,rfl⟩),hr,h.symm⟩
   | vw w rows =>
    simp only at h;cases hr:rows[i]? with
    | none=>simp [hr]at h
    | some r =>
     cases r with
     | none=>simp [hr]at h
     | some ze=>obtain ⟨z,es⟩:=ze;simp only[hr,Option.some.injEq]at h;exact ⟨rows,z,es,Or.inr ⟨w,rfl⟩,hr,h.symm⟩
   | _=>simp at h
theorem N9 {M:Mem} {k s:Nat} {c:CQ} {j t:Nat} (h:j≠k):b7 ((k,s,c)::M) j t=b7 M j t:=by
 simp only[b7,c5,IE.2 h,cond_false]
theorem WB {M:Mem} {k s:Nat} {c:CQ}:b7 ((k,s,c)::M) k 0=some c:=by simp [b7,c5]
theorem ZZ {M:Mem} {k s:Nat} {c:CQ} (hc:c.flat) {t:Nat} {c':CQ} (h:b7 ((k,s,c)::M) k t=some c'):t=0/\c'=c:=by
 cases t with
 | zero=>rw[WB]at h;exact ⟨rfl,(Option.some.inj h).symm⟩
 | succ i =>
  simp only[b7,c5,Nat.beq_refl,cond_true]at h;cases c with
  | mx rows =>
   simp only at h;split at h
   ·rename_i z es hr
    exact (hc i (z,es) hr).elim
   ·cases h
  | hx a v rows=>exact hc.elim
  | vw w rows=>exact hc.elim
  | _=>simp at h
theorem Zf {σ σ':II} {k k':Nat} {rows:List (Option (Nat × List (List AV)))} (h:CQ.flat (.mx rows)):DZ σ k 0 rows=DZ σ' k' 0 rows:=by
 apply List.ext_getElem?;intro j;rw[H0,H0];cases hr:rows[j]? with
 | none=>rfl
 | some r=>cases r with
  | none=>rfl
  | some x=>exact (h j x hr).elim
theorem RX.bq (h:RX σ tm M st) {s q:Nat} (hm:JQ s M=false) (ht:LA s tm=false) (c:CQ) (hf:c.flat) (hc:K9 s c=false) (hl:c.gm=true->HM q=true) :
  RX (E5 σ s λ_=>(q,st.own.e5 q)) tm ((s,q,c)::M) ⟨st.tm,st.own.put q ((st.own q).new (c.blk σ s))⟩:=by
 have Av : ∀ j t c',b7 M j t=some c'->((st.own.put q ((st.own q).new (c.blk σ s))) (σ j t).1).blk (σ j t).2=(st.own (σ j t).1).blk (σ j t).2:=by
  intro j t c' e;by_cases hs:(σ j t).1=q
  ·have ho:=h.sat.old _ _ _ e
   rw[hs]at ho ⊢;simp only[BT.e7,D9.new];rw[if_neg (by omega)]
  ·rw[BT.cq _ _ _ _ hs]
 have qw : ∀ s',(st.own s').e5<=((st.own.put q ((st.own q).new (c.blk σ s))) s').e5:=by
  intro s';by_cases hs:s'=q
  ·subst hs;simp only[BT.e7,D9.new];omega
  ·rw[BT.cq _ _ _ _ hs];exact Nat.le_refl _
 have hne : ∀ j t c',j≠s->b7 ((s,q,c)::M) j t=some c'->b7 M j t=some c':=λ j t c' hj e=>by rwa [N9 hj]at e
 have rm : ∀ j t c',b7 M j t=some c'->K9 s c'=false/\j≠s:=by
  intro j t c' e;obtain ⟨s1,c0,g1,g2,g3⟩:=KQ e;obtain ⟨g4,g5⟩:=YE hm _ _ _ g1;refine ⟨?_,g4⟩;cases t with
  | zero=>rw[g2 rfl];exact g5
  | succ i=>obtain ⟨rows,z,es,_,_,rfl⟩:=g3 i rfl;rfl
 refine ⟨λ j => ?_,⟨?_,?_,?_,?_,?_⟩⟩
 ·rw[jP (Z8 ht j)];exact h.tm j
 ·intro j s' c' e
  simp only[c5]at e;cases hb:Nat.beq j s<;>simp only[hb,cond_true,cond_false]at e
  ·rw[EM _ (IE.1 hb)];exact h.sat.site _ _ _ e
  ·simp only[Option.some.injEq,Prod.mk.injEq]at e
   obtain ⟨rfl,rfl⟩:=e;rw[DI.1 hb,DM]
 ·intro j t c' e
  by_cases hj:j=s
  ·subst hj
   obtain ⟨rfl,rfl⟩:=ZZ hf e;have hb:c'.blk (E5 σ j λ_=>(q,st.own.e5 q)) j=c'.blk σ j:=by
    cases c' with
    | bx cs=>simp only[K9]at hc;simp only[CQ.blk,aA hc]
    | rw z es=>rfl
    | bs z es=>simp only[K9]at hc;simp only[CQ.blk,qK hc]
    | mx rows=>exact congrArg (GH.mk 1) (Zf hf)
    | hx a v rows=>exact hf.elim
    | vw w rows=>exact hf.elim
   rw[DM,hb];simp [BT.e7,D9.new,BT.e5]
  ·have e':=hne j t c' hj e
   rw[EM _ hj,fH (rm j t c' e').1 hj];exact (Av j t c' e').trans (h.sat.blk _ _ _ e')
 ·intro j t c' e
  by_cases hj:j=s
  ·subst hj
   rw[DM];simp [BT.e7,D9.new,BT.e5]
  ·have e':=hne j t c' hj e
   rw[EM _ hj];exact Nat.lt_of_lt_of_le (h.sat.old _ _ _ e') (qw _)
 ·have fw : ∀ j t c',b7 M j t=some c'->σ j t=(q,st.own.e5 q)->False:=by
   intro j t c' e hh;have h2:=h.sat.old _ _ _ e;rw[hh]at h2;exact absurd h2 (Nat.lt_irrefl _)
  intro j t j' t' c1 c2 e1 e2 hj;by_cases h1:j=s<;>by_cases h2:j'=s
  ·subst h1;subst h2
   exact ⟨rfl,(ZZ hf e1).1.trans (ZZ hf e2).1.symm⟩
  ·subst h1
   rw[DM,EM _ h2]at hj;exact (fw _ _ _ (hne _ _ _ h2 e2) hj.symm).elim
  ·subst h2
   rw[DM,EM _ h1]at hj;exact (fw _ _ _ (hne _ _ _ h1 e1) hj).elim
  ·rw[EM _ h1,EM _ h2]at hj
   exact h.sat.inj _ _ _ _ _ _ (hne _ _ _ h1 e1) (hne _ _ _ h2 e2) hj
 ·intro j t c' e hw
  by_cases hj:j=s
  ·subst hj
   obtain ⟨rfl,rfl⟩:=ZZ hf e;rw[DM];exact hl hw
  ·rw[EM _ hj];exact h.sat.low _ _ _ (hne j t c' hj e) hw
theorem PK {k j:Nat} {x:Nat × CQ} : ∀ {M:Mem},c5 (n6 k M) j=some x->j≠k/\c5 M j=some x
 | [],e=>by cases e
 | (i,s,c)::r,e=>by
  simp only[n6]at e;cases hb:Nat.beq k i<;>simp only[hb,cond_true,cond_false]at e
  ·simp only[c5]at e ⊢
   cases hj:Nat.beq j i<;>simp only[hj,cond_true,cond_false]at e ⊢
   ·exact PK e
   ·exact ⟨λ e'=>IE.1 hb (e'.symm.trans (DI.1 hj)),e⟩
  ·obtain ⟨h1,h2⟩:=PK e
   refine ⟨h1,?_⟩;simp only[c5];rw[IE.2 (λ e'=>h1 (e'.trans (DI.1 hb).symm))];exact h2
theorem X7 {own:BT} {p:Nat × Nat} {x:Option GH} {q:Nat × Nat} (h:q≠p):((own.put p.1 ((own p.1).n7 p.2 x)) q.1).blk q.2=(own q.1).blk q.2:=by
 by_cases hs:q.1=p.1
 ·rw[hs,BT.e7]
  simp only[D9.n7];rw[if_neg (λ e=>h (Prod.ext hs e))]
 ·rw[BT.cq _ _ _ _ hs]
theorem iU {own:BT} {p:Nat × Nat} {x:Option GH}:((own.put p.1 ((own p.1).n7 p.2 x)) p.1).blk p.2=x:=by simp [BT.e7,D9.n7]
theorem dE {own:BT} {p:Nat × Nat} {x:Option GH} (s:Nat):((own.put p.1 ((own p.1).n7 p.2 x)) s).e5=(own s).e5:=by
 by_cases hs:s=p.1
 ·subst hs;rw[BT.e7];rfl
 ·rw[BT.cq _ _ _ _ hs]
theorem RX.yp (h:RX σ tm M st) {k s:Nat} {c:CQ} (e:c5 M k=some (s,c)) (hf:c.flat) (c':CQ) (ga:c'.flat) (hir:c'.gm=true->c.gm=true) :
  RX σ tm ((k,s,c')::M) ⟨st.tm,st.own.put s ((st.own s).n7 (σ k 0).2 (some (c'.blk σ k)))⟩:=by
 have hs:=h.sat.site _ _ _ e;subst hs;have e0:=GK e;have hg : ∀ j t c1,b7 ((k,(σ k 0).1,c')::M) j t=some c1->(j=k/\t=0/\c1=c')\/(j≠k/\b7 M j t=some c1):=by
  intro j t c1 e1;by_cases hj:j=k
  ·subst hj
   obtain ⟨rfl,rfl⟩:=ZZ ga e1;exact Or.inl ⟨rfl,rfl,rfl⟩
  ·rw[N9 hj]at e1
   exact Or.inr ⟨hj,e1⟩
 have jn : ∀ j t c1,b7 ((k,(σ k 0).1,c')::M) j t=some c1 -> ∃ c2,b7 M j t=some c2:=by
  intro j t c1 e1;rcases hg j t c1 e1 with ⟨rfl,rfl,rfl⟩|⟨_,h2⟩
  ·exact ⟨c,e0⟩
  ·exact ⟨c1,h2⟩
 refine ⟨h.tm,⟨?_,?_,?_,?_,?_⟩⟩
 ·intro j s' c1 e1
  simp only[c5]at e1;cases hb:Nat.beq j k<;>simp only[hb,cond_true,cond_false]at e1
  ·exact h.sat.site _ _ _ e1
  ·simp only[Option.some.injEq,Prod.mk.injEq]at e1
   rw[DI.1 hb];exact e1.1
 ·intro j t c1 e1
  rcases hg j t c1 e1 with ⟨rfl,rfl,rfl⟩|⟨h1,h2⟩
  ·exact iU
  ·refine (X7 (λ he => ?_)).trans (h.sat.blk _ _ _ h2)
   exact h1 (h.sat.inj _ _ _ _ _ _ h2 e0 he).1
 ·intro j t c1 e1
  obtain ⟨c2,e2⟩:=jn _ _ _ e1;show (σ j t).2<((st.own.put (σ k 0).1 ((st.own (σ k 0).1).n7 (σ k 0).2 (some (c'.blk σ k)))) (σ j t).1).e5;rw[dE];exact h.sat.old _ _ _ e2
 ·intro j t j' t' c1 c2 e1 e2 hj
  obtain ⟨_,e1'⟩:=jn _ _ _ e1;obtain ⟨_,e2'⟩:=jn _ _ _ e2;exact h.sat.inj _ _ _ _ _ _ e1' e2' hj
 ·intro j t c1 e1 hw
  rcases hg j t c1 e1 with ⟨rfl,rfl,rfl⟩|⟨_,h2⟩
  ·exact h.sat.low _ _ _ e0 (hir hw)
  ·exact h.sat.low _ _ _ h2 hw
theorem iH {k t:Nat} {c:CQ} (h:b7 M k (t+1)=some c):c.gm=true:=by
 obtain ⟨_,_,_,_,g3⟩:=KQ h;obtain ⟨_,_,_,_,_,rfl⟩:=g3 t rfl;rfl
theorem K6 {k j t:Nat} {c:CQ} (h:b7 (n6 k M) j t=some c):j≠k/\b7 M j t=some c:=by
 obtain ⟨s,c0,g1,_⟩:=KQ h;obtain ⟨h1,h2⟩:=PK g1;refine ⟨h1,?_⟩;unfold b7 at h ⊢;rw[g1]at h;rw[h2];exact h
theorem RX.kill (h:RX σ tm M st) {k s:Nat} {c:CQ} (e:c5 M k=some (s,c)) :
  RX σ tm (n6 k M) ⟨st.tm,st.own.put s ((st.own s).n7 (σ k 0).2 none)⟩:=by
 have hs:=h.sat.site _ _ _ e;subst hs;have e0:=GK e;refine ⟨h.tm,⟨?_,?_,?_,?_,?_⟩⟩
 ·intro j s' c1 e1
  exact h.sat.site _ _ _ (PK e1).2
 ·intro j t c1 e1
  obtain ⟨hj,e1⟩:=K6 e1;refine (X7 (λ he => ?_)).trans (h.sat.blk _ _ _ e1);exact hj (h.sat.inj _ _ _ _ _ _ e1 e0 he).1
 ·intro j t c1 e1
  obtain ⟨hj,e1⟩:=K6 e1;show (σ j t).2<((st.own.put (σ k 0).1 ((st.own (σ k 0).1).n7 (σ k 0).2 none)) (σ j t).1).e5;rw[dE];exact h.sat.old _ _ _ e1
 ·intro j t j' t' c1 c2 e1 e2 hj
  exact h.sat.inj _ _ _ _ _ _ (K6 e1).2 (K6 e2).2 hj
 ·intro j t c1 e1 hw
  exact h.sat.low _ _ _ (K6 e1).2 hw
theorem RX.Cb (h:RX σ tm M st) {k s i z:Nat} {rows:List (Option (Nat × List (List AV)))} {es es':List (List AV)} (e:c5 M k=some (s,.mx rows)) (hr:rows[i]? = some (some (z,es))) (hl:es'.length=es.length) :
  RX σ tm ((k,s,.mx (rows.set i (some (z,es'))))::M) ⟨st.tm,st.own.put (σ k (i+1)).1 ((st.own (σ k (i+1)).1).n7 (σ k (i+1)).2 (some ⟨z,es'⟩))⟩:=by
 have e1:b7 M k (i+1)=some (.rw z es):=by simp [b7,e,hr]
 have hi:i<rows.length:=(zS hr).1;have ek:DZ σ k 0 (rows.set i (some (z,es')))=DZ σ k 0 rows:=by
  apply List.ext_getElem?;intro j;rw[H0,H0];by_cases hj:i=j
  ·subst hj;rw[List.getElem?_set_self hi,hr];simp [hl]
  ·rw[List.getElem?_set_ne hj]
 have hg : ∀ j t c1,b7 ((k,s,.mx (rows.set i (some (z,es'))))::M) j t=some c1->(j=k/\t=i+1/\c1 = .rw z es')\/(¬ (j=k/\t=i+1) /\ ∃ c2,b7 M j t=some c2/\c2.blk σ j=c1.blk σ j):=by
  intro j t c1 g;by_cases hj:j=k
  ·subst hj
   cases t with
   | zero =>
    rw[WB]at g;obtain rfl:=Option.some.inj g;exact Or.inr ⟨by omega,_,GK e,by simp only[CQ.blk,ek]⟩
   | succ t =>
    simp only[b7,c5,Nat.beq_refl,cond_true]at g;by_cases hti:i=t
    ·subst hti
     rw[List.getElem?_set_self hi]at g;exact Or.inl ⟨rfl,rfl,(Option.some.inj g).symm⟩
    ·rw[List.getElem?_set_ne hti]at g
     refine Or.inr ⟨by omega,c1,?_,rfl⟩;simp only[b7,e];exact g
  ·rw[N9 hj]at g
   exact Or.inr ⟨by omega,c1,g,rfl⟩
 have jn : ∀ j t c1,b7 ((k,s,.mx (rows.set i (some (z,es'))))::M) j t=some c1 -> ∃ c2,b7 M j t=some c2:=by
  intro j t c1 g;rcases hg j t c1 g with ⟨rfl,rfl,rfl⟩|⟨_,c2,h2,_⟩
  ·exact ⟨_,e1⟩
  ·exact ⟨c2,h2⟩
 refine ⟨h.tm,⟨?_,?_,?_,?_,?_⟩⟩
 ·intro j s' c1 g
  simp only[c5]at g;cases hb:Nat.beq j k<;>simp only[hb,cond_true,cond_false]at g
  ·exact h.sat.site _ _ _ g
  ·simp only[Option.some.injEq,Prod.mk.injEq]at g
   rw[DI.1 hb,<-g.1];exact h.sat.site _ _ _ e
 ·intro j t c1 g
  rcases hg j t c1 g with ⟨rfl,rfl,rfl⟩|⟨h1,c2,h2,h3⟩
  ·exact iU
  ·rw[<-h3]
   refine (X7 (λ he => ?_)).trans (h.sat.blk _ _ _ h2);exact h1 (h.sat.inj _ _ _ _ _ _ h2 e1 he)
 ·intro j t c1 g
  obtain ⟨c2,e2⟩:=jn _ _ _ g;show (σ j t).2<((st.own.put (σ k (i+1)).1 ((st.own (σ k (i+1)).1).n7 (σ k (i+1)).2 (some ⟨z,es'⟩))) (σ j t).1).e5;rw[dE];exact h.sat.old _ _ _ e2
 ·intro j t j' t' c1 c2 g1 g2 hj
  obtain ⟨_,e1'⟩:=jn _ _ _ g1;obtain ⟨_,e2'⟩:=jn _ _ _ g2;exact h.sat.inj _ _ _ _ _ _ e1' e2' hj
 ·intro j t c1 g hw
  obtain ⟨c2,e2⟩:=jn _ _ _ g;cases t with
  | zero =>
   by_cases hj:j=k
   ·subst hj;exact h.sat.low _ _ _ (GK e) rfl
   ·rw[N9 hj]at g;exact h.sat.low _ _ _ g hw
  | succ t=>exact h.sat.low _ _ _ e2 (iH e2)
section
variable {k:Nat} {f:Nat->Nat × Nat}
theorem qM {v:AV} (hf:f 0=σ k 0) (h:US k v=false):CZ (E5 σ k f) v=CZ σ v:=by
 cases v with
 | row j t z o n =>
  simp only[US]at h;cases hb:Nat.beq j k
  ·simp only[CZ,EM f (IE.1 hb)]
  ·obtain rfl:=DI.1 hb
   simp only[hb,cond_true]at h;cases t with
   | zero=>simp only[CZ,DM,hf]
   | succ t=>cases h
 | ptr j t a b =>
  simp only[US]at h;cases hb:Nat.beq j k
  ·simp only[CZ,EM f (IE.1 hb)]
  ·obtain rfl:=DI.1 hb
   simp only[hb,cond_true]at h;cases t with
   | zero=>simp only[CZ,DM,hf]
   | succ t=>cases h
 | _=>rfl
theorem dN (hf:f 0=σ k 0) : ∀ {cs:List AV},TT k cs=false->cs.map (CZ (E5 σ k f))=cs.map (CZ σ)
 | [],_=>rfl
 | c::r,h=>by
  simp only[TT]at h;cases h1:US k c<;>simp only[h1,cond_true,cond_false]at h
  ·rw[List.map_cons,List.map_cons,qM hf h1,dN hf h]
  ·cases h
theorem Hl (hf:f 0=σ k 0) : ∀ {es:List (List AV)},ZE k es=false->(es.map λ cs=>cs.map (CZ (E5 σ k f)))=es.map λ cs=>cs.map (CZ σ)
 | [],_=>rfl
 | c::r,h=>by
  simp only[ZE]at h;cases h1:TT k c<;>simp only[h1,cond_true,cond_false]at h
  ·rw[List.map_cons,List.map_cons,dN hf h1,Hl hf h]
  ·cases h
theorem dO {v:AV} (hf:f 0=σ k 0) (h:W9 k v=false):DP (E5 σ k f) v=DP σ v:=by
 cases v with
 | agg cs=>simp only[W9]at h;simp only[DP,dN hf h]
 | fn p f g cs=>simp only[W9]at h;simp only[DP,dN hf h]
 | row a b c d e=>exact qM (v := .row a b c d e) hf h
 | ptr a b c d=>exact qM (v := .ptr a b c d) hf h
 | _=>rfl
theorem Hm (hf:f 0=σ k 0) : ∀ {cs:List AV},ZD k cs=false->cs.map (DP (E5 σ k f))=cs.map (DP σ)
 | [],_=>rfl
 | c::r,h=>by
  simp only[ZD]at h;cases h1:W9 k c<;>simp only[h1,cond_true,cond_false]at h
  ·rw[List.map_cons,List.map_cons,dO hf h1,Hm hf h]
  ·cases h
theorem Ho {v:AV} (hf:f 0=σ k 0) (h:VX k v=false):C9 (E5 σ k f) v=C9 σ v:=by
 cases v with
 | tup cs=>simp only[VX]at h;simp only[C9,Hm hf h]
 | agg cs=>exact dO (v := .agg cs) hf h
 | fn p f g cs=>exact dO (v := .fn p f g cs) hf h
 | row a b c d e=>exact dO (v := .row a b c d e) hf h
 | ptr a b c d=>exact dO (v := .ptr a b c d) hf h
 | _=>rfl
theorem lC : ∀ {tm:Tm},MS k tm=false -> ∀ j,VX k (tg tm j)=false
 | [],_,_=>rfl
 | (i,v)::r,h,j=>by
  simp only[MS]at h;cases h1:VX k v<;>simp only[h1,cond_true,cond_false]at h
  ·simp only[tg]
   cases Nat.beq j i
   ·exact lC h j
   ·exact h1
  ·cases h
theorem kZ : ∀ {M:Mem},LH k M=false -> ∀ j s c,c5 M j=some (s,c)->TS k c=false
 | [],_,_,_,_,e=>by cases e
 | (i,s0,c0)::r,h,j,s,c,e=>by
  simp only[LH]at h;cases h1:TS k c0<;>simp only[h1,cond_true,cond_false]at h
  ·simp only[c5]at e
   cases h2:Nat.beq j i<;>simp only[h2,cond_true,cond_false]at e
   ·exact kZ h j s c e
   ·simp only[Option.some.injEq,Prod.mk.injEq]at e
    obtain ⟨_,rfl⟩:=e;exact h1
  ·cases h
theorem tF {c:CQ} {j:Nat} (hf:f 0=σ k 0) (h:TS k c=false) (hj:j≠k):c.blk (E5 σ k f) j=c.blk σ j:=by
 cases c with
 | bx cs=>simp only[TS]at h;simp only[CQ.blk,dN hf h]
 | rw z es=>rfl
 | bs z es=>simp only[TS]at h;simp only[CQ.blk,Hl hf h]
 | mx rows=>simp only[CQ.blk];rw[WC rows 0 λ i _=>by rw[EM f hj]]
 | hx a v rows=>simp only[CQ.blk];rw[WC rows 0 λ i _=>by rw[EM f hj]]
 | vw w rows=>simp only[CQ.blk];rw[WC rows 0 λ i _=>by rw[EM f hj]]
end
theorem RX.se (h:RX σ tm M st) {k k2 s s2 i z:Nat} {rows:List (Option (Nat × List (List AV)))} {es:List (List AV)} {c0:CQ} (e:c5 M k=some (s,c0)) (hc0:c0 = .mx rows \/ ∃ v,c0 = .hx i v rows) (e2:c5 M k2=some (s2,.rw z es)) (hk:k≠k2) (w4:MS k tm=false) (hcm:LH k M=false) (hi:i<rows.length) :
  RX (E5 σ k λ t=>if t=i+1 then σ k2 0 else σ k t) tm ((k,s,.mx (rows.set i (some (z,es))))::n6 k2 M) ⟨st.tm,st.own.put s ((st.own s).n7 (σ k 0).2 (some ⟨1,(DZ σ k 0 rows).set i [.row (σ k2 0).1 (σ k2 0).2 z 0 es.length]⟩))⟩:=by
 have hs:=h.sat.site _ _ _ e;subst hs;have r0:=GK e;have r2:=GK e2;have f0:(λ t=>if t=i+1 then σ k2 0 else σ k t) 0=σ k 0:=by simp
 have ek:DZ (E5 σ k λ t=>if t=i+1 then σ k2 0 else σ k t) k 0 (rows.set i (some (z,es)))=(DZ σ k 0 rows).set i [.row (σ k2 0).1 (σ k2 0).2 z 0 es.length]:=by
  apply List.ext_getElem?;intro j;rw[H0,DM];by_cases hj:i=j
  ·subst hj
   rw[List.getElem?_set_self hi,List.getElem?_set_self (by rw[H1];exact hi)];simp
  ·rw[List.getElem?_set_ne hj,List.getElem?_set_ne hj,H0]
   congr 1;funext r
   cases r with
   | none=>rfl
   | some x=>simp only[Nat.zero_add];rw[if_neg (by omega)]
 have hg : ∀ j t c,b7 ((k,(σ k 0).1,.mx (rows.set i (some (z,es))))::n6 k2 M) j t=some c ->
   (j=k/\t=0/\c = .mx (rows.set i (some (z,es))))\/(j=k/\t=i+1/\c = .rw z es)\/(j=k/\t≠0/\t≠i+1/\b7 M k t=some c)\/(j≠k/\j≠k2/\b7 M j t=some c):=by
  intro j t c g;by_cases hj:j=k
  ·subst hj
   cases t with
   | zero=>rw[WB]at g;exact Or.inl ⟨rfl,rfl,(Option.some.inj g).symm⟩
   | succ t =>
    simp only[b7,c5,Nat.beq_refl,cond_true]at g;by_cases hti:i=t
    ·subst hti
     rw[List.getElem?_set_self hi]at g;exact Or.inr (Or.inl ⟨rfl,rfl,(Option.some.inj g).symm⟩)
    ·rw[List.getElem?_set_ne hti]at g
     refine Or.inr (Or.inr (Or.inl ⟨rfl,by omega,by omega,?_⟩));rcases hc0 with rfl|⟨v,rfl⟩
     ·simp only[b7,e]
      exact g
     ·simp only[b7,e]
      exact g
  ·rw[N9 hj]at g
   obtain ⟨g1,g2⟩:=K6 g;exact Or.inr (Or.inr (Or.inr ⟨hj,g1,g2⟩))
 have zx : ∀ j t c,b7 M j t=some c->TS k c=false:=by
  intro j t c g;obtain ⟨s1,c0,g1,g2,g3⟩:=KQ g;cases t with
  | zero=>rw[g2 rfl];exact kZ hcm _ _ _ g1
  | succ t=>obtain ⟨_,_,_,_,_,rfl⟩:=g3 t rfl;rfl
 refine ⟨λ j => ?_,⟨?_,?_,?_,?_,?_⟩⟩
 ·rw[Ho (f:=λ t=>if t=i+1 then σ k2 0 else σ k t) f0 (lC w4 j)];exact h.tm j
 ·intro j s' c g
  simp only[c5]at g;cases hb:Nat.beq j k<;>simp only[hb,cond_true,cond_false]at g
  ·rw[EM _ (IE.1 hb)];exact h.sat.site _ _ _ (PK g).2
  ·simp only[Option.some.injEq,Prod.mk.injEq]at g
   rw[DI.1 hb,DM,<-g.1];simp
 ·intro j t c g
  rcases hg j t c g with ⟨rfl,rfl,rfl⟩|⟨rfl,rfl,rfl⟩|⟨rfl,h0,h1,g2⟩|⟨h0,h1,g2⟩
  ·rw[DM]
   simp only[CQ.blk,ek];exact iU
  ·rw[DM]
   simp only[if_true];exact (X7 (λ he=>hk (h.sat.inj _ _ _ _ _ _ r2 r0 he).1.symm)).trans (h.sat.blk _ _ _ r2)
  ·rw[DM]
   simp only[h1,if_false];have hb:c.blk (E5 σ j λ t=>if t=i+1 then σ k2 0 else σ j t) j=c.blk σ j:=by
    obtain ⟨_,_,_,_,g3⟩:=KQ g2;obtain ⟨t',rfl⟩ : ∃ t',t=t'+1:=⟨t-1,by omega⟩;obtain ⟨_,_,_,_,_,rfl⟩:=g3 t' rfl;rfl
   rw[hb];exact (X7 (λ he=>h0 (h.sat.inj _ _ _ _ _ _ g2 r0 he).2)).trans (h.sat.blk _ _ _ g2)
  ·rw[EM _ h0,tF (f:=λ t=>if t=i+1 then σ k2 0 else σ k t) f0 (zx _ _ _ g2) h0]
   exact (X7 (λ he=>h0 (h.sat.inj _ _ _ _ _ _ g2 r0 he).1)).trans (h.sat.blk _ _ _ g2)
 ·intro j t c g
  rw[dE];rcases hg j t c g with ⟨rfl,rfl,rfl⟩|⟨rfl,rfl,rfl⟩|⟨rfl,h0,h1,g2⟩|⟨h0,h1,g2⟩
  ·rw[DM];simpa using h.sat.old _ _ _ r0
  ·rw[DM];simpa using h.sat.old _ _ _ r2
  ·rw[DM];simp only[h1,if_false];exact h.sat.old _ _ _ g2
  ·rw[EM _ h0];exact h.sat.old _ _ _ g2
 ·-- each name is that of tu in the old memory
  have hold : ∀ j t c,b7 ((k,(σ k 0).1,.mx (rows.set i (some (z,es))))::n6 k2 M) j t=some c -> ∃ j0 t0 c0,b7 M j0 t0=some c0/\(E5 σ k λ t=>if t=i+1 then σ k2 0 else σ k t) j t=σ j0 t0/\((j0=k2/\t0=0/\j=k/\t=i+1)\/(j0=j/\t0=t/\j≠k2)):=by
   intro j t c g;rcases hg j t c g with ⟨rfl,rfl,rfl⟩|⟨rfl,rfl,rfl⟩|⟨rfl,h0,h1,g2⟩|⟨h0,h1,g2⟩
   ·exact ⟨_,_,_,r0,by rw[DM];simp,Or.inr ⟨rfl,rfl,hk⟩⟩
   ·exact ⟨_,_,_,r2,by rw[DM];simp,Or.inl ⟨rfl,rfl,rfl,rfl⟩⟩
   ·exact ⟨_,_,_,g2,by rw[DM];simp [h1],Or.inr ⟨rfl,rfl,hk⟩⟩
   ·exact ⟨_,_,_,g2,by rw[EM _ h0],Or.inr ⟨rfl,rfl,h1⟩⟩
  intro j t j' t' c c' g g' hj;obtain ⟨j0,t0,c0,a1,a2,a3⟩:=hold j t c g;obtain ⟨j1,t1,c1,b1,b2,b3⟩:=hold j' t' c' g';rw[a2,b2]at hj;obtain ⟨q1,q2⟩:=h.sat.inj _ _ _ _ _ _ a1 b1 hj;rcases a3 with ⟨x1,x2,x3,x4⟩|⟨x1,x2,x3⟩<;>rcases b3 with ⟨y1,y2,y3,y4⟩|⟨y1,y2,y3⟩
  ·exact ⟨x3.trans y3.symm,x4.trans y4.symm⟩
  ·exact absurd (y1.symm.trans (q1.symm.trans x1)) y3
  ·exact absurd (x1.symm.trans (q1.trans y1)) x3
  ·exact ⟨x1.symm.trans (q1.trans y1),x2.symm.trans (q2.trans y2)⟩
 ·intro j t c g hw
  rcases hg j t c g with ⟨rfl,rfl,rfl⟩|⟨rfl,rfl,rfl⟩|⟨rfl,h0,h1,g2⟩|⟨h0,h1,g2⟩
  ·rw[DM];simpa using h.sat.low _ _ _ r0 (by rcases hc0 with rfl|⟨v,rfl⟩<;>rfl)
  ·rw[DM];simpa using h.sat.low _ _ _ r2 rfl
  ·rw[DM];simp only[h1,if_false];exact h.sat.low _ _ _ g2 hw
  ·rw[EM _ h0];exact h.sat.low _ _ _ g2 hw
theorem XR {own:BT} {q t:Nat} {b:GH} {p:Nat × Nat} (h:p≠(q,t)) (ho:p.2<(own p.1).e5):((own.put q (((own q).n7 t none).new b)) p.1).blk p.2=(own p.1).blk p.2:=by
 by_cases hs:p.1=q
 ·rw[hs]at ho ⊢
  rw[BT.e7];simp only[D9.new,D9.n7];have h1 : ¬ p.2=(own q).e5:=by omega
  have h2 : ¬ p.2=t:=λ e=>h (Prod.ext hs e)
  simp only[h1,h2,if_false]
 ·rw[BT.cq _ _ _ _ hs]
theorem XT {own:BT} {q t:Nat} {b:GH} (s:Nat):(own s).e5<=((own.put q (((own q).n7 t none).new b)) s).e5:=by
 by_cases hs:s=q
 ·subst hs;rw[BT.e7];simp only[D9.new,D9.n7];omega
 ·rw[BT.cq _ _ _ _ hs];exact Nat.le_refl _
theorem RX.yv (h:RX σ tm M st) {s key sk i z:Nat} {rows:List (Option (Nat × List (List AV)))} {es es':List (List AV)} (e:c5 M key=some (sk,.mx rows)) (hr:rows[i]? = some (some (z,es))) (hm:JQ s M=false) (ht:LA s tm=false) :
  RX (E5 σ s λ_=>((σ key (i+1)).1,st.own.e5 (σ key (i+1)).1)) tm ((s,(σ key (i+1)).1,.rw z es')::(key,sk,.hx i (.row (σ key (i+1)).1 (σ key (i+1)).2 z 0 es.length) (rows.set i none))::n6 key M)
   ⟨st.tm,st.own.put (σ key (i+1)).1 (((st.own (σ key (i+1)).1).n7 (σ key (i+1)).2 none).new ⟨z,es'⟩)⟩:=by
 have r0:=GK e;have e1:b7 M key (i+1)=some (.rw z es):=by simp [b7,e,hr]
 have hi:i<rows.length:=(zS hr).1;have va:key≠s:=(YE hm _ _ _ e).1;have ek:(DZ (E5 σ s λ_=>((σ key (i+1)).1,st.own.e5 (σ key (i+1)).1)) key 0 (rows.set i none)).set i [.row (σ key (i+1)).1 (σ key (i+1)).2 z 0 es.length]=DZ σ key 0 rows:=by
  apply List.ext_getElem?;intro j;by_cases hj:i=j
  ·subst hj
   rw[List.getElem?_set_self (by rw[H1,List.length_set];exact hi),H0,hr];simp
  ·rw[List.getElem?_set_ne hj,H0,H0,List.getElem?_set_ne hj,EM _ va]
 have rm : ∀ j t c',b7 M j t=some c'->K9 s c'=false/\j≠s:=by
  intro j t c' g;obtain ⟨s1,c0,g1,g2,g3⟩:=KQ g;obtain ⟨g4,g5⟩:=YE hm _ _ _ g1;refine ⟨?_,g4⟩;cases t with
  | zero=>rw[g2 rfl];exact g5
  | succ i=>obtain ⟨rows,z,es,_,_,rfl⟩:=g3 i rfl;rfl
 have hg : ∀ j t c,b7 ((s,(σ key (i+1)).1,.rw z es')::(key,sk,.hx i (.row (σ key (i+1)).1 (σ key (i+1)).2 z 0 es.length) (rows.set i none))::n6 key M) j t=some c ->
   (j=s/\t=0/\c = .rw z es')\/(j=key/\t=0/\c = .hx i (.row (σ key (i+1)).1 (σ key (i+1)).2 z 0 es.length) (rows.set i none))\/(j≠s /\ ¬ (j=key/\t=0) /\ ¬ (j=key/\t=i+1)/\(j=key -> ∃ z es,c = .rw z es)/\b7 M j t=some c):=by
  intro j t c g;by_cases hj:j=s
  ·subst hj
   obtain ⟨rfl,rfl⟩:=ZZ (c := .rw z es') trivial g;exact Or.inl ⟨rfl,rfl,rfl⟩
  ·rw[N9 hj]at g
   by_cases hk:j=key
   ·subst hk
    cases t with
    | zero=>rw[WB]at g;exact Or.inr (Or.inl ⟨rfl,rfl,(Option.some.inj g).symm⟩)
    | succ t =>
     simp only[b7,c5,Nat.beq_refl,cond_true]at g;by_cases hti:i=t
     ·subst hti
      rw[List.getElem?_set_self hi]at g;cases g
     ·rw[List.getElem?_set_ne hti]at g
      refine Or.inr (Or.inr ⟨hj,by omega,by omega,λ_ => ?_,?_⟩)
      ·split at g
       ·exact ⟨_,_,(Option.some.inj g).symm⟩
       ·cases g
      ·simp only[b7,e]
       exact g
   ·rw[N9 hk]at g
    obtain ⟨g1,g2⟩:=K6 g;exact Or.inr (Or.inr ⟨hj,by omega,by omega,λ h=>absurd h hk,g2⟩)
 refine ⟨λ j => ?_,⟨?_,?_,?_,?_,?_⟩⟩
 ·rw[jP (Z8 ht j)];exact h.tm j
 ·intro j s1 c g
  simp only[c5]at g;cases hb:Nat.beq j s<;>simp only[hb,cond_true,cond_false]at g
  ·rw[EM _ (IE.1 hb)]
   cases o4:Nat.beq j key<;>simp only[o4,cond_true,cond_false]at g
   ·exact h.sat.site _ _ _ (PK g).2
   ·simp only[Option.some.injEq,Prod.mk.injEq]at g
    rw[DI.1 o4,<-g.1];exact h.sat.site _ _ _ e
  ·simp only[Option.some.injEq,Prod.mk.injEq]at g
   rw[DI.1 hb,DM,<-g.1]
 ·intro j t c g
  rcases hg j t c g with ⟨rfl,rfl,rfl⟩|⟨rfl,rfl,rfl⟩|⟨h0,h1,h2,h3,g2⟩
  ·rw[DM]
   simp [BT.e7,D9.new,BT.e5,D9.n7,CQ.blk]
  ·rw[EM _ va]
   simp only[CQ.blk,ek];exact (XR (λ he=>absurd (h.sat.inj _ _ _ _ _ _ r0 e1 he).2 (by omega)) (h.sat.old _ _ _ r0)).trans (h.sat.blk _ _ _ r0)
  ·rw[EM _ h0,fH (rm _ _ _ g2).1 h0]
   exact (XR (λ he=>h2 (h.sat.inj _ _ _ _ _ _ g2 e1 he)) (h.sat.old _ _ _ g2)).trans (h.sat.blk _ _ _ g2)
 ·intro j t c g
  rcases hg j t c g with ⟨rfl,rfl,rfl⟩|⟨rfl,rfl,rfl⟩|⟨h0,h1,h2,h3,g2⟩
  ·rw[DM]
   simp [BT.e7,D9.new,BT.e5,D9.n7]
  ·rw[EM _ va]
   exact Nat.lt_of_lt_of_le (h.sat.old _ _ _ r0) (XT _)
  ·rw[EM _ h0]
   exact Nat.lt_of_lt_of_le (h.sat.old _ _ _ g2) (XT _)
 ·have hold : ∀ j t c,b7 ((s,(σ key (i+1)).1,.rw z es')::(key,sk,.hx i (.row (σ key (i+1)).1 (σ key (i+1)).2 z 0 es.length) (rows.set i none))::n6 key M) j t=some c->(j=s/\t=0)\/(j≠s /\ ∃ c0,b7 M j t=some c0):=by
   intro j t c g;rcases hg j t c g with ⟨rfl,rfl,rfl⟩|⟨rfl,rfl,rfl⟩|⟨h0,h1,h2,h3,g2⟩
   ·exact Or.inl ⟨rfl,rfl⟩
   ·exact Or.inr ⟨va,_,r0⟩
   ·exact Or.inr ⟨h0,_,g2⟩
  have gp : ∀ j0 t0 c0,b7 M j0 t0=some c0->((σ key (i+1)).1,st.own.e5 (σ key (i+1)).1)≠σ j0 t0:=by
   intro j0 t0 c0 g he;have:=h.sat.old _ _ _ g
   rw[<-he]at this;exact absurd this (Nat.lt_irrefl _)
  intro j t j' t' c c' g g' hj;rcases hold j t c g with ⟨rfl,rfl⟩|⟨a1,c1,a2⟩<;>rcases hold j' t' c' g' with ⟨rfl,rfl⟩|⟨b1,c2,b2⟩
  ·exact ⟨rfl,rfl⟩
  ·rw[DM,EM _ b1]at hj;exact absurd hj (gp _ _ _ b2)
  ·rw[DM,EM _ a1]at hj;exact absurd hj.symm (gp _ _ _ a2)
  ·rw[EM _ a1,EM _ b1]at hj
   exact h.sat.inj _ _ _ _ _ _ a2 b2 hj
 ·intro j t c g hw
  rcases hg j t c g with ⟨rfl,rfl,rfl⟩|⟨rfl,rfl,rfl⟩|⟨h0,h1,h2,h3,g2⟩
  ·rw[DM];exact h.sat.low _ _ _ e1 rfl
  ·rw[EM _ va];exact h.sat.low _ _ _ r0 rfl
  ·rw[EM _ h0];exact h.sat.low _ _ _ g2 hw
theorem RX.view (h:RX σ tm M st) {k s:Nat} {c0:CQ} {rows:List (Option (Nat × List (List AV)))} {w:List Nat} (e:c5 M k=some (s,c0)) (hc0:c0 = .mx rows \/ ∃ w0,c0 = .vw w0 rows) :
  RX σ tm ((k,s,.vw w rows)::M) ⟨st.tm,st.own.put s ((st.own s).n7 (σ k 0).2 (some (CQ.blk σ k (.vw w rows))))⟩:=by
 have hs:=h.sat.site _ _ _ e;subst hs;have r0:=GK e;have hg : ∀ j t c,b7 ((k,(σ k 0).1,.vw w rows)::M) j t=some c->(j=k/\t=0/\c = .vw w rows)\/(¬ (j=k/\t=0)/\b7 M j t=some c):=by
  intro j t c g;by_cases hj:j=k
  ·subst hj
   cases t with
   | zero=>rw[WB]at g;exact Or.inl ⟨rfl,rfl,(Option.some.inj g).symm⟩
   | succ t =>
    refine Or.inr ⟨by omega,?_⟩;simp only[b7,c5,Nat.beq_refl,cond_true]at g;rcases hc0 with rfl|⟨w0,rfl⟩
    ·simp only[b7,e]
     exact g
    ·simp only[b7,e]
     exact g
  ·rw[N9 hj]at g
   exact Or.inr ⟨by omega,g⟩
 have jn : ∀ j t c1,b7 ((k,(σ k 0).1,.vw w rows)::M) j t=some c1 -> ∃ c2,b7 M j t=some c2:=by
  intro j t c1 g;rcases hg j t c1 g with ⟨rfl,rfl,rfl⟩|⟨_,h2⟩
  ·exact ⟨_,r0⟩
  ·exact ⟨_,h2⟩
 refine ⟨h.tm,⟨?_,?_,?_,?_,?_⟩⟩
 ·intro j s' c1 g
  simp only[c5]at g;cases hb:Nat.beq j k<;>simp only[hb,cond_true,cond_false]at g
  ·exact h.sat.site _ _ _ g
  ·simp only[Option.some.injEq,Prod.mk.injEq]at g
   rw[DI.1 hb];exact g.1
 ·intro j t c1 g
  rcases hg j t c1 g with ⟨rfl,rfl,rfl⟩|⟨h1,h2⟩
  ·exact iU
  ·refine (X7 (λ he => ?_)).trans (h.sat.blk _ _ _ h2)
   exact h1 (h.sat.inj _ _ _ _ _ _ h2 r0 he)
 ·intro j t c1 g
  obtain ⟨c2,e2⟩:=jn _ _ _ g;show (σ j t).2<((st.own.put (σ k 0).1 ((st.own (σ k 0).1).n7 (σ k 0).2 _)) (σ j t).1).e5;rw[dE];exact h.sat.old _ _ _ e2
 ·intro j t j' t' c1 c2 g1 g2 hj
  obtain ⟨_,e1'⟩:=jn _ _ _ g1;obtain ⟨_,e2'⟩:=jn _ _ _ g2;exact h.sat.inj _ _ _ _ _ _ e1' e2' hj
 ·intro j t c1 g hw
  rcases hg j t c1 g with ⟨rfl,rfl,rfl⟩|⟨_,h2⟩
  ·exact h.sat.low _ _ _ r0 (by rcases hc0 with rfl|⟨w0,rfl⟩<;>rfl)
  ·exact h.sat.low _ _ _ h2 hw
theorem RX.si (h:RX σ tm M st) {k s:Nat} {rows o3:List (Option (Nat × List (List AV)))} {w:List Nat} (e:c5 M k=some (s,.vw w rows)) (hl:o3.length=w.length)
  (hw : ∀ (i t:Nat),w[i]? = some t -> ∃ r,rows[t]? = some r/\o3[i]? = some r) (hi : ∀ (i i' t:Nat),w[i]? = some t->w[i']? = some t->i=i') (w4:MS k tm=false) (hcm:LH k M=false) :
  ∃ σ',RX σ' tm ((k,s,.mx o3)::M) st:=by
 have hs:=h.sat.site _ _ _ e;subst hs;have r0:=GK e;obtain ⟨f,hf⟩ : ∃ f:Nat->Nat × Nat,f=λ t=>match t with|0=>σ k 0|i+1=>match w[i]? with|some v=>σ k (v+1)|none=>σ k (i+1):=⟨_,rfl⟩
 have f0:f 0=σ k 0:=by rw[hf]
 have f1 : ∀ i v,w[i]? = some v->f (i+1)=σ k (v+1):=λ i v hv=>by rw[hf];simp only[hv]
 have zx : ∀ j t c,b7 M j t=some c->TS k c=false:=by
  intro j t c g;obtain ⟨s1,c0,g1,g2,g3⟩:=KQ g;cases t with
  | zero=>rw[g2 rfl];exact kZ hcm _ _ _ g1
  | succ t=>obtain ⟨_,_,_,_,_,rfl⟩:=g3 t rfl;rfl
 have hwl : ∀ i,i<o3.length -> ∃ v r,w[i]? = some v/\rows[v]? = some r/\o3[i]? = some r:=λ i hi=>by
  obtain ⟨v,hv⟩ : ∃ v,w[i]? = some v:=⟨_,zE (by omega)⟩;obtain ⟨r,h1,h2⟩:=hw i v hv;exact ⟨v,r,hv,h1,h2⟩
 have ek:DZ (E5 σ k f) k 0 o3=w.map λ t=>((DZ σ k 0 rows)[t]?).getD []:=by
  apply List.ext_getElem?;intro i;rw[H0,DM,List.getElem?_map];by_cases hil:i<o3.length
  ·obtain ⟨v,r,h1,h2,h3⟩:=hwl i hil
   rw[h3,h1,Option.map_some,Option.map_some,H0,h2,Option.map_some,Option.getD_some,Nat.zero_add,Nat.zero_add,f1 i v h1]
  ·rw[List.getElem?_eq_none (by omega),List.getElem?_eq_none (by omega)];rfl
 have hg : ∀ j t c,b7 ((k,(σ k 0).1,.mx o3)::M) j t=some c ->
   (j=k/\t=0/\c = .mx o3)\/(∃ i v,j=k/\t=i+1/\w[i]? = some v/\b7 M k (v+1)=some c)\/(j≠k/\b7 M j t=some c):=by
  intro j t c g;by_cases hj:j=k
  ·subst hj
   cases t with
   | zero=>rw[WB]at g;exact Or.inl ⟨rfl,rfl,(Option.some.inj g).symm⟩
   | succ t =>
    simp only[b7,c5,Nat.beq_refl,cond_true]at g;by_cases htl:t<o3.length
    ·obtain ⟨v,r,h1,h2,h3⟩:=hwl t htl
     refine Or.inr (Or.inl ⟨t,v,rfl,rfl,h1,?_⟩);rw[h3]at g;simp only[b7,e,h2];exact g
    ·rw[List.getElem?_eq_none (by omega)]at g;cases g
  ·rw[N9 hj]at g
   exact Or.inr (Or.inr ⟨hj,g⟩)
 have hcr : ∀ v c,b7 M k (v+1)=some c -> ∃ z es,c = .rw z es:=λ v c g=>by
  obtain ⟨_,_,_,_,g3⟩:=KQ g;obtain ⟨_,z,es,_,_,rfl⟩:=g3 v rfl;exact ⟨z,es,rfl⟩
 refine ⟨E5 σ k f,λ j => ?_,⟨?_,?_,?_,?_,?_⟩⟩
 ·rw[Ho f0 (lC w4 j)];exact h.tm j
 ·intro j s' c g
  simp only[c5]at g;cases hb:Nat.beq j k<;>simp only[hb,cond_true,cond_false]at g
  ·rw[EM _ (IE.1 hb)];exact h.sat.site _ _ _ g
  ·simp only[Option.some.injEq,Prod.mk.injEq]at g
   rw[DI.1 hb,DM,<-g.1,f0]
 ·intro j t c g
  rcases hg j t c g with ⟨rfl,rfl,rfl⟩|⟨i,v,rfl,rfl,h1,g2⟩|⟨h0,g2⟩
  ·rw[DM,f0]
   have:=h.sat.blk _ _ _ r0
   simp only[CQ.blk,ek]at this ⊢;exact this
  ·rw[DM,f1 i v h1]
   obtain ⟨z,es,rfl⟩:=hcr v c g2;exact h.sat.blk _ _ _ g2
  ·rw[EM _ h0,tF f0 (zx _ _ _ g2) h0]
   exact h.sat.blk _ _ _ g2
 ·intro j t c g
  rcases hg j t c g with ⟨rfl,rfl,rfl⟩|⟨i,v,rfl,rfl,h1,g2⟩|⟨h0,g2⟩
  ·rw[DM,f0];exact h.sat.old _ _ _ r0
  ·rw[DM,f1 i v h1];exact h.sat.old _ _ _ g2
  ·rw[EM _ h0];exact h.sat.old _ _ _ g2
 ·have hold : ∀ j t c,b7 ((k,(σ k 0).1,.mx o3)::M) j t=some c -> ∃ j0 t0 c0,b7 M j0 t0=some c0/\(E5 σ k f) j t=σ j0 t0/\((j=k/\j0=k/\((t=0/\t0=0) \/ ∃ i v,t=i+1/\t0=v+1/\w[i]? = some v))\/(j≠k/\j0=j/\t0=t)):=by
   intro j t c g;rcases hg j t c g with ⟨rfl,rfl,rfl⟩|⟨i,v,rfl,rfl,h1,g2⟩|⟨h0,g2⟩
   ·exact ⟨_,_,_,r0,by rw[DM,f0],Or.inl ⟨rfl,rfl,Or.inl ⟨rfl,rfl⟩⟩⟩
   ·exact ⟨_,_,_,g2,by rw[DM,f1 i v h1],Or.inl ⟨rfl,rfl,Or.inr ⟨i,v,rfl,rfl,h1⟩⟩⟩
   ·exact ⟨_,_,_,g2,by rw[EM _ h0],Or.inr ⟨h0,rfl,rfl⟩⟩
  intro j t j' t' c c' g g' hj;obtain ⟨j0,t0,c0,a1,a2,a3⟩:=hold j t c g;obtain ⟨j1,t1,c1,b1,b2,b3⟩:=hold j' t' c' g';rw[a2,b2]at hj;obtain ⟨q1,q2⟩:=h.sat.inj _ _ _ _ _ _ a1 b1 hj;rcases a3 with ⟨x1,x2,x3⟩|⟨x1,x2,x3⟩<;>rcases b3 with ⟨y1,y2,y3⟩|⟨y1,y2,y3⟩
  ·refine ⟨x1.trans y1.symm,?_⟩
   rcases x3 with ⟨x4,x5⟩|⟨i,v,x4,x5,x6⟩<;>rcases y3 with ⟨y4,y5⟩|⟨i',v',y4,y5,y6⟩
   ·omega
   ·omega
   ·omega
   ·obtain rfl:v=v':=by omega
    have:=hi i i' v x6 y6
    omega
  ·exact absurd (y2.symm.trans (q1.symm.trans x2)) y1
  ·exact absurd (x2.symm.trans (q1.trans y2)) x1
  ·exact ⟨x2.symm.trans (q1.trans y2),x3.symm.trans (q2.trans y3)⟩
 ·intro j t c g hw
  rcases hg j t c g with ⟨rfl,rfl,rfl⟩|⟨i,v,rfl,rfl,h1,g2⟩|⟨h0,g2⟩
  ·rw[DM,f0];exact h.sat.low _ _ _ r0 rfl
  ·rw[DM,f1 i v h1];exact h.sat.low _ _ _ g2 (iH g2)
  ·rw[EM _ h0];exact h.sat.low _ _ _ g2 hw
theorem RX.yx (h:RX σ tm M st) {s key s':Nat} {rows:List (Option (Nat × List (List AV)))} (e:c5 M key=some (s',.mx rows)) (hm:JQ s M=false) (ht:LA s tm=false) :
  RX (E5 σ s λ t=>match t with|0=>(s',st.own.e5 s')|i+1=>σ key (i+1)) tm ((s,s',.mx (rows++[none]))::n6 key M)
   ⟨st.tm,st.own.put s' (((st.own s').n7 (σ key 0).2 none).new ⟨1,DZ σ key 0 rows++[[.nil]]⟩)⟩:=by
 have hs:=h.sat.site _ _ _ e;subst hs;have r0:=GK e;generalize hF:(λ t=>match t with|0=>((σ key 0).1,st.own.e5 (σ key 0).1)|i+1=>σ key (i+1):Nat->Nat × Nat)=F;have F0:F 0=((σ key 0).1,st.own.e5 (σ key 0).1):=by rw[<-hF]
 have F1 : ∀ i,F (i+1)=σ key (i+1):=by intro i;rw[<-hF]
 have ek:DZ (E5 σ s F) s 0 (rows++[none])=DZ σ key 0 rows++[[.nil]]:=by
  apply List.ext_getElem?;intro j;rw[H0,DM];rcases Nat.lt_trichotomy j rows.length with hj|hj|hj
  ·rw[List.getElem?_append_left hj,List.getElem?_append_left (by rw[H1];exact hj),H0]
   congr 1;funext r
   cases r with
   | none=>rfl
   | some x=>simp only[Nat.zero_add];rw[F1]
  ·subst hj
   rw[List.getElem?_append_right (Nat.le_refl _),List.getElem?_append_right (by rw[H1];exact Nat.le_refl _),H1];simp
  ·rw[List.getElem?_eq_none (by simp;omega),List.getElem?_eq_none (by simp [H1];omega)];rfl
 have rm : ∀ j t c',b7 M j t=some c'->K9 s c'=false/\j≠s:=by
  intro j t c' g;obtain ⟨s1,c0,g1,g2,g3⟩:=KQ g;obtain ⟨g4,g5⟩:=YE hm _ _ _ g1;refine ⟨?_,g4⟩;cases t with
  | zero=>rw[g2 rfl];exact g5
  | succ i=>obtain ⟨rows,z,es,_,_,rfl⟩:=g3 i rfl;rfl
 have hg : ∀ j t c,b7 ((s,(σ key 0).1,.mx (rows++[none]))::n6 key M) j t=some c ->
   (j=s/\t=0/\c = .mx (rows++[none]))\/(j=s/\t≠0/\b7 M key t=some c)\/(j≠s/\j≠key/\b7 M j t=some c):=by
  intro j t c g;by_cases hj:j=s
  ·subst hj
   cases t with
   | zero=>rw[WB]at g;exact Or.inl ⟨rfl,rfl,(Option.some.inj g).symm⟩
   | succ t =>
    simp only[b7,c5,Nat.beq_refl,cond_true]at g;rcases Nat.lt_trichotomy t rows.length with ic|ic|ic
    ·rw[List.getElem?_append_left ic]at g
     refine Or.inr (Or.inl ⟨rfl,by omega,?_⟩);simp only[b7,e];exact g
    ·subst ic
     rw[List.getElem?_append_right (Nat.le_refl _),Nat.sub_self]at g;simp at g
    ·rw[List.getElem?_eq_none (by simp;omega)]at g;cases g
  ·rw[N9 hj]at g
   obtain ⟨g1,g2⟩:=K6 g;exact Or.inr (Or.inr ⟨hj,g1,g2⟩)
 refine ⟨λ j => ?_,⟨?_,?_,?_,?_,?_⟩⟩
 ·rw[jP (Z8 ht j)];exact h.tm j
 ·intro j s1 c g
  simp only[c5]at g;cases hb:Nat.beq j s<;>simp only[hb,cond_true,cond_false]at g
  ·rw[EM _ (IE.1 hb)];exact h.sat.site _ _ _ (PK g).2
  ·simp only[Option.some.injEq,Prod.mk.injEq]at g
   rw[DI.1 hb,DM,F0,<-g.1]
 ·intro j t c g
  rcases hg j t c g with ⟨rfl,rfl,rfl⟩|⟨rfl,h0,g2⟩|⟨h0,h1,g2⟩
  ·rw[DM,F0]
   simp only[CQ.blk,ek];simp [BT.e7,D9.new,BT.e5,D9.n7]
  ·obtain ⟨t',rfl⟩ : ∃ t',t=t'+1:=⟨t-1,by omega⟩
   rw[DM,F1];have hb:c.blk (E5 σ j F) j=c.blk σ key:=by
    obtain ⟨_,_,_,_,g3⟩:=KQ g2;obtain ⟨_,_,_,_,_,rfl⟩:=g3 t' rfl;rfl
   rw[hb];exact (XR (λ he=>absurd (h.sat.inj _ _ _ _ _ _ g2 r0 he).2 (by omega)) (h.sat.old _ _ _ g2)).trans (h.sat.blk _ _ _ g2)
  ·rw[EM _ h0,fH (rm _ _ _ g2).1 h0]
   exact (XR (λ he=>h1 (h.sat.inj _ _ _ _ _ _ g2 r0 he).1) (h.sat.old _ _ _ g2)).trans (h.sat.blk _ _ _ g2)
 ·intro j t c g
  rcases hg j t c g with ⟨rfl,rfl,rfl⟩|⟨rfl,h0,g2⟩|⟨h0,h1,g2⟩
  ·rw[DM,F0]
   simp [BT.e7,D9.new,BT.e5,D9.n7]
  ·obtain ⟨t',rfl⟩ : ∃ t',t=t'+1:=⟨t-1,by omega⟩
   rw[DM,F1];exact Nat.lt_of_lt_of_le (h.sat.old _ _ _ g2) (XT _)
  ·rw[EM _ h0]
   exact Nat.lt_of_lt_of_le (h.sat.old _ _ _ g2) (XT _)
 ·have hold : ∀ j t c,b7 ((s,(σ key 0).1,.mx (rows++[none]))::n6 key M) j t=some c->(j=s/\t=0) \/ ∃ j0 t0 c0,b7 M j0 t0=some c0/\E5 σ s F j t=σ j0 t0/\((j0=key/\t0=t/\j=s)\/(j0=j/\t0=t/\j≠key)):=by
   intro j t c g;rcases hg j t c g with ⟨rfl,rfl,rfl⟩|⟨rfl,h0,g2⟩|⟨h0,h1,g2⟩
   ·exact Or.inl ⟨rfl,rfl⟩
   ·obtain ⟨t',rfl⟩ : ∃ t',t=t'+1:=⟨t-1,by omega⟩
    exact Or.inr ⟨_,_,_,g2,by rw[DM,F1],Or.inl ⟨rfl,rfl,rfl⟩⟩
   ·exact Or.inr ⟨_,_,_,g2,by rw[EM _ h0],Or.inr ⟨rfl,rfl,h1⟩⟩
  have gp : ∀ j0 t0 c0,b7 M j0 t0=some c0->E5 σ s F s 0≠σ j0 t0:=by
   intro j0 t0 c0 g he;rw[DM,F0]at he;have:=h.sat.old _ _ _ g
   rw[<-he]at this;exact absurd this (Nat.lt_irrefl _)
  intro j t j' t' c c' g g' hj;rcases hold j t c g with ⟨rfl,rfl⟩|⟨j0,t0,c0,a1,a2,a3⟩<;>rcases hold j' t' c' g' with ⟨rfl,rfl⟩|⟨j1,t1,c1,b1,b2,b3⟩
  ·exact ⟨rfl,rfl⟩
  ·rw[b2]at hj;exact absurd hj (gp _ _ _ b1)
  ·rw[a2]at hj;exact absurd hj.symm (gp _ _ _ a1)
  ·rw[a2,b2]at hj
   obtain ⟨q1,q2⟩:=h.sat.inj _ _ _ _ _ _ a1 b1 hj;rcases a3 with ⟨x1,x2,x3⟩|⟨x1,x2,x3⟩<;>rcases b3 with ⟨y1,y2,y3⟩|⟨y1,y2,y3⟩
   ·exact ⟨x3.trans y3.symm,x2.symm.trans (q2.trans y2)⟩
   ·exact absurd (y1.symm.trans (q1.symm.trans x1)) y3
   ·exact absurd (x1.symm.trans (q1.trans y1)) x3
   ·exact ⟨x1.symm.trans (q1.trans y1),x2.symm.trans (q2.trans y2)⟩
 ·intro j t c g hw
  rcases hg j t c g with ⟨rfl,rfl,rfl⟩|⟨rfl,h0,g2⟩|⟨h0,h1,g2⟩
  ·rw[DM,F0];exact h.sat.low _ _ _ r0 rfl
  ·obtain ⟨t',rfl⟩ : ∃ t',t=t'+1:=⟨t-1,by omega⟩
   rw[DM,F1];exact h.sat.low _ _ _ g2 hw
  ·rw[EM _ h0];exact h.sat.low _ _ _ g2 hw
theorem kY {k:Nat} {v:AV} (h:SN k v=false):US k v=false:=by
 cases v with
 | row j t z o n=>simp only[SN]at h;simp only[US,h,cond_false]
 | ptr j t a b=>simp only[SN]at h;simp only[US,h,cond_false]
 | _=>rfl
theorem aY {k:Nat} : ∀ {cs:List AV},LU k cs=false->TT k cs=false
 | [],_=>rfl
 | c::r,h=>by
  simp only[LU]at h;cases h1:SN k c<;>simp only[h1,cond_true,cond_false]at h
  ·simp only[TT,kY h1,cond_false,aY h]
  ·cases h
theorem tM {k:Nat} : ∀ {es:List (List AV)},WG k es=false->ZE k es=false
 | [],_=>rfl
 | c::r,h=>by
  simp only[WG]at h;cases h1:LU k c<;>simp only[h1,cond_true,cond_false]at h
  ·simp only[ZE,aY h1,cond_false,tM h]
  ·cases h
theorem aX {k:Nat} {v:AV} (h:VJ k v=false):W9 k v=false:=by
 cases v with
 | agg cs=>exact aY h
 | fn p f g cs=>exact aY h
 | row a b c d e=>exact kY (v := .row a b c d e) h
 | ptr a b c d=>exact kY (v := .ptr a b c d) h
 | _=>rfl
theorem tL {k:Nat} : ∀ {cs:List AV},Z7 k cs=false->ZD k cs=false
 | [],_=>rfl
 | c::r,h=>by
  simp only[Z7]at h;cases h1:VJ k c<;>simp only[h1,cond_true,cond_false]at h
  ·simp only[ZD,aX h1,cond_false,tL h]
  ·cases h
theorem Nr {k:Nat} {v:AV} (h:SP k v=false):VX k v=false:=by
 cases v with
 | tup cs=>exact tL h
 | agg cs=>exact aX (v := .agg cs) h
 | fn p f g cs=>exact aX (v := .fn p f g cs) h
 | row a b c d e=>exact aX (v := .row a b c d e) h
 | ptr a b c d=>exact aX (v := .ptr a b c d) h
 | _=>rfl
theorem tO {k:Nat} : ∀ {tm:Tm},LA k tm=false->MS k tm=false
 | [],_=>rfl
 | (i,v)::r,h=>by
  simp only[LA]at h;cases h1:SP k v<;>simp only[h1,cond_true,cond_false]at h
  ·simp only[MS,Nr h1,cond_false,tO h]
  ·cases h
theorem tN {k:Nat} : ∀ {M:Mem},JQ k M=false->LH k M=false
 | [],_=>rfl
 | (i,s,c)::r,h=>by
  simp only[JQ]at h;cases h0:Nat.beq k i<;>simp only[h0,cond_true,cond_false]at h
  ·cases h1:K9 k c<;>simp only[h1,cond_true,cond_false]at h
   ·have:TS k c=false:=by
     cases c with
     | bx cs=>exact aY h1
     | bs z es=>exact tM h1
     | _=>rfl
    simp only[LH,this,cond_false,tN h]
   ·cases h
  ·cases h
theorem RX.hid {M1 M2:Mem} (hm : ∀ k,c5 M1 k=c5 M2 k) (h:RX σ tm M1 st):RX σ tm M2 st:=by
 have hr : ∀ k t,b7 M1 k t=b7 M2 k t:=λ k t=>by simp only[b7,hm]
 refine ⟨h.tm,⟨λ k s c e => ?_,λ k t c e => ?_,λ k t c e => ?_,λ k t k' t' c c' e e' => ?_,λ k t c e hw => ?_⟩⟩
 ·rw[<-hm]at e;exact h.sat.site _ _ _ e
 ·rw[<-hr]at e;exact h.sat.blk _ _ _ e
 ·rw[<-hr]at e;exact h.sat.old _ _ _ e
 ·rw[<-hr]at e e';exact h.sat.inj _ _ _ _ _ _ e e'
 ·rw[<-hr]at e;exact h.sat.low _ _ _ e hw
theorem RX.Ca (h:RX σ tm M st) {s q k2 s2 z:Nat} {es:List (List AV)} (e2:c5 M k2=some (s2,.rw z es)) (hk:s≠k2) (hm:JQ s M=false) (ht:LA s tm=false) (hq:HM q=true) :
  ∃ σ',σ' s 0=(q,st.own.e5 q)/\RX σ' tm ((s,q,.mx [some (z,es)])::n6 k2 M) ⟨st.tm,st.own.put q ((st.own q).new ⟨1,[[.row (σ k2 0).1 (σ k2 0).2 z 0 es.length]]⟩)⟩:=by
 have hfl:CQ.flat (.mx [none]):=by
  intro i x hx;cases i with
  | zero=>simp at hx
  | succ i=>simp at hx
 have h1:=h.bq (s:=s) (q:=q) hm ht (.mx [none]) hfl rfl (λ_=>hq);have e2':c5 ((s,q,.mx [none])::M) k2=some (s2,.rw z es):=by
  simp only[c5,IE.2 (λ e=>hk e.symm),cond_false];exact e2
 have hcm:LH s ((s,q,.mx [none])::M)=false:=by simp only[LH,TS,cond_false,tN hm]
 have h2:=h1.se (k:=s) (s:=q) (k2:=k2) (i:=0) (rows:=[none]) (c0 := .mx [none]) (by simp [c5]) (Or.inl rfl) e2' hk (tO ht) hcm (by simp);refine ⟨E5 σ s (λ t=>if t=0+1 then σ k2 0 else (q,st.own.e5 q)),?_,?_⟩
 ·rw[DM];simp
 ·have hσ:(E5 (E5 σ s λ_=>(q,st.own.e5 q)) s λ t=>if t=0+1 then (E5 σ s λ_=>(q,st.own.e5 q)) k2 0 else (E5 σ s λ_=>(q,st.own.e5 q)) s t)=E5 σ s (λ t=>if t=0+1 then σ k2 0 else (q,st.own.e5 q)):=by
   funext j t
   by_cases hj:j=s
   ·subst hj;rw[DM,DM];simp only[DM,EM _ (λ e=>hk e.symm)]
   ·rw[EM _ hj,EM _ hj,EM _ hj]
  rw[hσ]at h2;have hM:n6 k2 ((s,q,CQ.mx [none])::M)=(s,q,.mx [none])::n6 k2 M:=by
   simp only[n6,IE.2 (λ e=>hk e.symm),cond_false]
  rw[hM]at h2;have ho : ∀ b b':GH,(st.own.put q ((st.own q).new b)).put q (((st.own.put q ((st.own q).new b)) q).n7 (st.own.e5 q) (some b'))=st.own.put q ((st.own q).new b'):=by
   intro b b';rw[BT.fj,BT.e7];congr 1;simp only[D9.n7,D9.new,BT.e5,D9.mk.injEq,true_and];funext t'
   by_cases ic:t'=(st.own q).e5<;>simp [ic]
  have hn:(E5 σ s λ_=>(q,st.own.e5 q)) s 0=(q,st.own.e5 q):=by rw[DM]
  have hk2:(E5 σ s λ_=>(q,st.own.e5 q)) k2=σ k2:=EM _ (λ e=>hk e.symm);simp only[hn,hk2]at h2;rw[ho]at h2;refine RX.hid (λ k => ?_) h2;simp only[c5];cases Nat.beq k s<;>rfl
theorem RX.yw (h:RX σ tm M st) {s key k2 ky s' s2 z:Nat} {rows:List (Option (Nat × List (List AV)))} {es:List (List AV)} (e:c5 M key=some (s',.mx rows)) (e2:c5 M k2=some (s2,.rw z es)) (hk:key≠k2) (hm:JQ s M=false) (ht:LA s tm=false) :
  RX (E5 σ s λ t=>match t with|0=>(s',st.own.e5 s')|i+1=>if i=rows.length then σ k2 0 else σ key (i+1)) tm ((s,s',.mx (rows++[some (z,es)]))::n6 key (n6 k2 (n6 ky M)))
   ⟨st.tm,st.own.put s' (((st.own s').n7 (σ key 0).2 none).new ⟨1,DZ σ key 0 rows++[[.row (σ k2 0).1 (σ k2 0).2 z 0 es.length]]⟩)⟩:=by
 have hs:=h.sat.site _ _ _ e;subst hs;have r0:=GK e;have r2:=GK e2;generalize hF:(λ t=>match t with|0=>((σ key 0).1,st.own.e5 (σ key 0).1)|i+1=>if i=rows.length then σ k2 0 else σ key (i+1):Nat->Nat × Nat)=F;have F0:F 0=((σ key 0).1,st.own.e5 (σ key 0).1):=by rw[<-hF]
 have F1 : ∀ i,F (i+1)=if i=rows.length then σ k2 0 else σ key (i+1):=by intro i;rw[<-hF]
 have ek:DZ (E5 σ s F) s 0 (rows++[some (z,es)])=DZ σ key 0 rows++[[.row (σ k2 0).1 (σ k2 0).2 z 0 es.length]]:=by
  apply List.ext_getElem?;intro j;rw[H0,DM];rcases Nat.lt_trichotomy j rows.length with hj|hj|hj
  ·rw[List.getElem?_append_left hj,List.getElem?_append_left (by rw[H1];exact hj),H0]
   congr 1;funext r
   cases r with
   | none=>rfl
   | some x=>simp only[Nat.zero_add];rw[F1,if_neg (by omega)]
  ·subst hj
   rw[List.getElem?_append_right (Nat.le_refl _),List.getElem?_append_right (by rw[H1];exact Nat.le_refl _),H1];simp [F1]
  ·rw[List.getElem?_eq_none (by simp;omega),List.getElem?_eq_none (by simp [H1];omega)];rfl
 have rm : ∀ j t c',b7 M j t=some c'->K9 s c'=false/\j≠s:=by
  intro j t c' g;obtain ⟨s1,c0,g1,g2,g3⟩:=KQ g;obtain ⟨g4,g5⟩:=YE hm _ _ _ g1;refine ⟨?_,g4⟩;cases t with
  | zero=>rw[g2 rfl];exact g5
  | succ i=>obtain ⟨rows,z,es,_,_,rfl⟩:=g3 i rfl;rfl
 have hg : ∀ j t c,b7 ((s,(σ key 0).1,.mx (rows++[some (z,es)]))::n6 key (n6 k2 (n6 ky M))) j t=some c ->
   (j=s/\t=0/\c = .mx (rows++[some (z,es)]))\/(j=s/\t=rows.length+1/\c = .rw z es)\/(j=s/\t≠0/\t≠rows.length+1/\b7 M key t=some c)\/(j≠s/\j≠key/\j≠k2/\b7 M j t=some c):=by
  intro j t c g;by_cases hj:j=s
  ·subst hj
   cases t with
   | zero=>rw[WB]at g;exact Or.inl ⟨rfl,rfl,(Option.some.inj g).symm⟩
   | succ t =>
    simp only[b7,c5,Nat.beq_refl,cond_true]at g;rcases Nat.lt_trichotomy t rows.length with ic|ic|ic
    ·rw[List.getElem?_append_left ic]at g
     refine Or.inr (Or.inr (Or.inl ⟨rfl,by omega,by omega,?_⟩));simp only[b7,e];exact g
    ·subst ic
     rw[List.getElem?_append_right (Nat.le_refl _),Nat.sub_self]at g;exact Or.inr (Or.inl ⟨rfl,rfl,(Option.some.inj g).symm⟩)
    ·rw[List.getElem?_eq_none (by simp;omega)]at g;cases g
  ·rw[N9 hj]at g
   obtain ⟨g1,g2⟩:=K6 g;obtain ⟨g3,g4⟩:=K6 g2;obtain ⟨_,g5⟩:=K6 g4;exact Or.inr (Or.inr (Or.inr ⟨hj,g1,g3,g5⟩))
 refine ⟨λ j => ?_,⟨?_,?_,?_,?_,?_⟩⟩
 ·rw[jP (Z8 ht j)];exact h.tm j
 ·intro j s1 c g
  simp only[c5]at g;cases hb:Nat.beq j s<;>simp only[hb,cond_true,cond_false]at g
  ·rw[EM _ (IE.1 hb)];exact h.sat.site _ _ _ (PK (PK (PK g).2).2).2
  ·simp only[Option.some.injEq,Prod.mk.injEq]at g
   rw[DI.1 hb,DM,F0,<-g.1]
 ·intro j t c g
  rcases hg j t c g with ⟨rfl,rfl,rfl⟩|⟨rfl,rfl,rfl⟩|⟨rfl,h0,h1,g2⟩|⟨h0,h1,h2,g2⟩
  ·rw[DM,F0]
   simp only[CQ.blk,ek];simp [BT.e7,D9.new,BT.e5,D9.n7]
  ·rw[DM,F1,if_pos rfl]
   exact (XR (λ he=>hk (h.sat.inj _ _ _ _ _ _ r2 r0 he).1.symm) (h.sat.old _ _ _ r2)).trans (h.sat.blk _ _ _ r2)
  ·obtain ⟨t',rfl⟩ : ∃ t',t=t'+1:=⟨t-1,by omega⟩
   rw[DM,F1,if_neg (by omega)];have hb:c.blk (E5 σ j F) j=c.blk σ key:=by
    obtain ⟨_,_,_,_,g3⟩:=KQ g2;obtain ⟨_,_,_,_,_,rfl⟩:=g3 t' rfl;rfl
   rw[hb];exact (XR (λ he=>absurd (h.sat.inj _ _ _ _ _ _ g2 r0 he).2 (by omega)) (h.sat.old _ _ _ g2)).trans (h.sat.blk _ _ _ g2)
  ·rw[EM _ h0,fH (rm _ _ _ g2).1 h0]
   exact (XR (λ he=>h1 (h.sat.inj _ _ _ _ _ _ g2 r0 he).1) (h.sat.old _ _ _ g2)).trans (h.sat.blk _ _ _ g2)
 ·intro j t c g
  rcases hg j t c g with ⟨rfl,rfl,rfl⟩|⟨rfl,rfl,rfl⟩|⟨rfl,h0,h1,g2⟩|⟨h0,h1,h2,g2⟩
  ·rw[DM,F0]
   simp [BT.e7,D9.new,BT.e5,D9.n7]
  ·rw[DM,F1,if_pos rfl]
   exact Nat.lt_of_lt_of_le (h.sat.old _ _ _ r2) (XT _)
  ·obtain ⟨t',rfl⟩ : ∃ t',t=t'+1:=⟨t-1,by omega⟩
   rw[DM,F1,if_neg (by omega)];exact Nat.lt_of_lt_of_le (h.sat.old _ _ _ g2) (XT _)
  ·rw[EM _ h0]
   exact Nat.lt_of_lt_of_le (h.sat.old _ _ _ g2) (XT _)
 ·have hold : ∀ j t c,b7 ((s,(σ key 0).1,.mx (rows++[some (z,es)]))::n6 key (n6 k2 (n6 ky M))) j t=some c->(j=s/\t=0) \/ ∃ j0 t0 c0,b7 M j0 t0=some c0/\E5 σ s F j t=σ j0 t0/\((j0=k2/\t0=0/\j=s/\t=rows.length+1)\/(j0=key/\t0=t/\j=s)\/(j0=j/\t0=t/\j≠key/\j≠k2)):=by
   intro j t c g;rcases hg j t c g with ⟨rfl,rfl,rfl⟩|⟨rfl,rfl,rfl⟩|⟨rfl,h0,h1,g2⟩|⟨h0,h1,h2,g2⟩
   ·exact Or.inl ⟨rfl,rfl⟩
   ·exact Or.inr ⟨_,_,_,r2,by rw[DM,F1,if_pos rfl],Or.inl ⟨rfl,rfl,rfl,rfl⟩⟩
   ·obtain ⟨t',rfl⟩ : ∃ t',t=t'+1:=⟨t-1,by omega⟩
    exact Or.inr ⟨_,_,_,g2,by rw[DM,F1,if_neg (by omega)],Or.inr (Or.inl ⟨rfl,rfl,rfl⟩)⟩
   ·exact Or.inr ⟨_,_,_,g2,by rw[EM _ h0],Or.inr (Or.inr ⟨rfl,rfl,h1,h2⟩)⟩
  have gp : ∀ j0 t0 c0,b7 M j0 t0=some c0->E5 σ s F s 0≠σ j0 t0:=by
   intro j0 t0 c0 g he;rw[DM,F0]at he;have:=h.sat.old _ _ _ g
   rw[<-he]at this;exact absurd this (Nat.lt_irrefl _)
  intro j t j' t' c c' g g' hj;rcases hold j t c g with ⟨rfl,rfl⟩|⟨j0,t0,c0,a1,a2,a3⟩<;>rcases hold j' t' c' g' with ⟨rfl,rfl⟩|⟨j1,t1,c1,b1,b2,b3⟩
  ·exact ⟨rfl,rfl⟩
  ·rw[b2]at hj;exact absurd hj (gp _ _ _ b1)
  ·rw[a2]at hj;exact absurd hj.symm (gp _ _ _ a1)
  ·rw[a2,b2]at hj
   obtain ⟨q1,q2⟩:=h.sat.inj _ _ _ _ _ _ a1 b1 hj;rcases a3 with ⟨x1,x2,x3,x4⟩|⟨x1,x2,x3⟩|⟨x1,x2,x3,x4⟩<;>rcases b3 with ⟨y1,y2,y3,y4⟩|⟨y1,y2,y3⟩|⟨y1,y2,y3,y4⟩
   ·exact ⟨x3.trans y3.symm,x4.trans y4.symm⟩
   ·exact absurd (y1.symm.trans (q1.symm.trans x1)) hk
   ·exact absurd (y1.symm.trans (q1.symm.trans x1)) y4
   ·exact absurd (x1.symm.trans (q1.trans y1)) hk
   ·exact ⟨x3.trans y3.symm,x2.symm.trans (q2.trans y2)⟩
   ·exact absurd (y1.symm.trans (q1.symm.trans x1)) y3
   ·exact absurd (x1.symm.trans (q1.trans y1)) x4
   ·exact absurd (x1.symm.trans (q1.trans y1)) x3
   ·exact ⟨x1.symm.trans (q1.trans y1),x2.symm.trans (q2.trans y2)⟩
 ·intro j t c g hw
  rcases hg j t c g with ⟨rfl,rfl,rfl⟩|⟨rfl,rfl,rfl⟩|⟨rfl,h0,h1,g2⟩|⟨h0,h1,h2,g2⟩
  ·rw[DM,F0];exact h.sat.low _ _ _ r0 rfl
  ·rw[DM,F1,if_pos rfl];exact h.sat.low _ _ _ r2 rfl
  ·obtain ⟨t',rfl⟩ : ∃ t',t=t'+1:=⟨t-1,by omega⟩
   rw[DM,F1,if_neg (by omega)];exact h.sat.low _ _ _ g2 hw
  ·rw[EM _ h0];exact h.sat.low _ _ _ g2 hw
theorem JS (k:IntKind) (n:Int):C9 σ (.int k n) = .int k n:=rfl
theorem JR (b:Bool):C9 σ (.bool b) = .bool b:=rfl
theorem JT (l:Bool) (es:List (List AV)):C9 σ (.sl l es) = .sl l es:=rfl
theorem FN (k t z o n:Nat):C9 σ (.row k t z o n) = .row (σ k t).1 (σ k t).2 z o n:=rfl
theorem GY (k t i j:Nat):C9 σ (.ptr k t i j) = .ptr (σ k t).1 (σ k t).2 i j:=rfl
theorem LY (cs:List AV):C9 σ (.o6 cs) = .o6 cs:=rfl
theorem H3:C9 σ .nil = .nil:=rfl
theorem KV (cs:List AV):C9 σ (.agg cs) = .agg (cs.map (CZ σ)):=rfl
theorem AkC (v:Value):C9 σ (.z9 v) = .z9 v:=rfl
theorem pQ (p:Bool) (f g:Nat) (cs:List AV):C9 σ (.fn p f g cs) = .fn p f g (cs.map (CZ σ)):=rfl
theorem LB (cs:List AV):C9 σ (.tup cs) = .tup (cs.map (DP σ)):=rfl
def ED.res (own:BT):ED->AV × BT
 | .val v=>(v,own)
 | .new s b f=>(f (own.e5 s),own.put s ((own s).new b))
 | .oi s b f=>(f (own.e5 s),own.put s ((own s).new b))
 | .af v o=>(v,o)
 | .n7 s x=>(.tup [],own.put s x)
 | .km s x v=>(v,own.put s x)
theorem kQ (st:St) (d:Option Nat) (E:ED):st.app d E=⟨(st.dst d (E.res st.own).1).tm,(E.res st.own).2⟩:=by
 cases E<;>cases d<;>rfl
def DL (L:Lib) (tm:Tm) (b9:List Nat) (K:AV->Mem->Prop) (op:GN) (st:St):Prop :=
 ∃ E σ' v M',(∀ c,c7 (FH L c) b9 st.ev st.own op=some E)/\K v M'/\(E.res st.own).1=C9 σ' v/\RX σ' tm M' ⟨st.tm,(E.res st.own).2⟩
theorem DL.val {L:Lib} {b9:List Nat} {K:AV->Mem->Prop} {op:GN} (h:RX σ tm M st) (v:AV) (he : ∀ c,c7 (FH L c) b9 st.ev st.own op=some (.val (C9 σ v))) (hk:K v M):DL L tm b9 K op st :=
 ⟨_,σ,v,M,he,hk,rfl,h⟩
variable {L:Lib} {b9:List Nat} {K:AV->Mem->Prop}
theorem Nv {x:B8} (hr:RX σ tm M st) (h:XE L tm M b9 K (.a8 x)):DL L tm b9 K (.a8 x) st:=by
 simp only[XE]at h;obtain ⟨h1,h2⟩:=gT h;exact DL.val hr _ (λ C=>by simp only[c7,hr.ev rfl h1]) h2
theorem Oc {s z:Nat} (hr:RX σ tm M st) (h:XE L tm M b9 K (.q7 s z)):DL L tm b9 K (.q7 s z) st:=by
 simp only[XE]at h;cases br:HM s<;>simp only[br,cond_true,cond_false]at h;obtain ⟨k,h1,h2,h3⟩:=KH h;refine ⟨_,_,_,_,λ C=>rfl,h3,?_,hr.bq h1 h2 (.rw z []) trivial rfl (λ_=>br)⟩;simp only[ED.res,FN,GY,DM]
theorem Nx {c a b:B8} (hr:RX σ tm M st) (h:XE L tm M b9 K (.pick c a b)):DL L tm b9 K (.pick c a b) st:=by
 simp only[XE]at h;split at h
 ·rename_i e
  obtain ⟨h1,h2⟩:=gT h;exact DL.val hr _ (λ C=>by simp only[c7,hr.ev e (by intro e;cases e),hr.ev rfl h1,JS,JR,JT,FN,GY,LY,H3,KV,LB]) h2
 ·rename_i e
  obtain ⟨h1,h2⟩:=gT h;exact DL.val hr _ (λ C=>by simp only[c7,hr.ev e (by intro e;cases e),hr.ev rfl h1,JS,JR,JT,FN,GY,LY,H3,KV,LB]) h2
 ·exact h.elim
theorem Xx {op:BinOp} {k k':IntKind} {a b:Int} {v:AV} (h:F4 op k a k' b=some v):C9 σ v=v:=by
 cases op<;>simp only[F4]at h<;>split at h<;>first|(obtain rfl:=Option.some.inj h;rfl)|cases h
theorem Ajv {k k':IntKind} (h:kq k k'=true):k=k':=by simpa [kq] using h
theorem Ox {op:BinOp} {k k':IntKind} {a b:Int} {K:AV->Prop} (h:kT op k a k' b K) : ∃ v,F4 op k a k' b=some v/\K v:=by
 have key : ∀ (p q:Prop) [Decidable p] (A B:Prop) (c:Bool),(¬ p->q)->BJ p q A B->(p/\A)\/(¬ p/\B):=by
  intro p q _ A B _ hq hc;by_cases hp:p
  ·exact Or.inl ⟨hp,hc.1 hp⟩
  ·exact Or.inr ⟨hp,hc.2 (hq hp)⟩
 cases op;all_goals try (exact h)
 all_goals (
  simp only[kT]at h;cases hk:kq k k'<;>simp only[hk,cond_true,cond_false]at h;obtain rfl:=Ajv hk;simp only[F4,if_true])
 ·rcases key (a=b) _ _ _ true (λ e=>e) h with ⟨h1,h2⟩|⟨h1,h2⟩
  ·exact ⟨_,rfl,by rw[show (a == b)=true by simpa using h1];exact h2⟩
  ·exact ⟨_,rfl,by rw[show (a == b)=false by simpa using h1];exact h2⟩
 ·rcases key (a≠b) _ _ _ true (λ e=>by omega) h with ⟨h1,h2⟩|⟨h1,h2⟩
  ·exact ⟨_,rfl,by rw[show (a != b)=true by simpa using h1];exact h2⟩
  ·exact ⟨_,rfl,by rw[show (a != b)=false by simpa using h1];exact h2⟩
 ·rcases key (a<b) _ _ _ true (λ e=>by omega) h with ⟨h1,h2⟩|⟨h1,h2⟩
  ·exact ⟨_,rfl,by simpa [h1] using h2⟩
  ·exact ⟨_,rfl,by simpa [h1] using h2⟩
 ·rcases key (a<=b) _ _ _ true (λ e=>by omega) h with ⟨h1,h2⟩|⟨h1,h2⟩
  ·exact ⟨_,rfl,by simpa [h1] using h2⟩
  ·exact ⟨_,rfl,by simpa [h1] using h2⟩
 ·rcases key (b<a) _ _ _ true (λ e=>by omega) h with ⟨h1,h2⟩|⟨h1,h2⟩
  ·exact ⟨_,rfl,by simpa [h1] using h2⟩
  ·exact ⟨_,rfl,by simpa [h1] using h2⟩
 ·rcases key (b<=a) _ _ _ true (λ e=>by omega) h with ⟨h1,h2⟩|⟨h1,h2⟩
  ·exact ⟨_,rfl,by simpa [h1] using h2⟩
  ·exact ⟨_,rfl,by simpa [h1] using h2⟩
theorem Pa {op:BinOp} {x y:B8} (hr:RX σ tm M st) (h:XE L tm M b9 K (.bin op x y)):DL L tm b9 K (.bin op x y) st:=by
 simp only[XE]at h;split at h
 ·rename_i k a k' b e1 e2
  obtain ⟨v,hv,hk⟩:=Ox h;exact DL.val hr v (λ C=>by
   simp only[c7,hr.ev e1 (by intro e;cases e),hr.ev e2 (by intro e;cases e),JS,JR,JT,FN,GY,LY,H3,KV,LB,hv,Option.map_some];exact congrArg some (congrArg ED.val (Xx (σ:=σ) hv).symm)) hk
 ·exact h.elim
theorem Oz {ne:Bool} {x y:B8} (hr:RX σ tm M st) (h:XE L tm M b9 K (.beq ne x y)):DL L tm b9 K (.beq ne x y) st:=by
 simp only[XE]at h;split at h
 ·rename_i a b e1 e2
  rw[U2]at h;exact DL.val hr _ (λ C=>by
   simp only[c7,hr.ev e1 (by intro e;cases e),hr.ev e2 (by intro e;cases e),JS,JR,JT,FN,GY,LY,H3,KV,LB];cases ne<;>rfl) h
 ·exact h.elim
theorem nV : ∀ {cs:List AV} {a:List Int},K5 cs=some a->cs.map (CZ σ)=cs
 | [],_,_=>rfl
 | c::r,a,h=>by
  cases c with
  | int k n =>
   cases k<;>simp only[K5]at h<;>first|cases h|skip
   cases hr:K5 r with
   | none=>rw[hr]at h;cases h
   | some b=>rw[List.map_cons,nV hr];rfl
  | _=>simp only[K5]at h;cases h
theorem Lb {ne:Bool} {n:Nat} {x y:B8} (hr:RX σ tm M st) (h:XE L tm M b9 K (.ke ne n x y)):DL L tm b9 K (.ke ne n x y) st:=by
 simp only[XE]at h;split at h
 ·rename_i cs ds e1 e2
  obtain ⟨a,b,h1,h2,h3,h4,h⟩:=h;rw[U2]at h;exact DL.val hr _ (λ C=>by
   simp only[c7,hr.ev e1 (by intro e;cases e),hr.ev e2 (by intro e;cases e),KV,nV h1,nV h2,h1,h2];rw[if_pos ⟨h3,h4⟩];cases ne<;>rfl) h
 ·exact h.elim
theorem Ob {op:UnOp} {x:B8} (hr:RX σ tm M st) (h:XE L tm M b9 K (.un op x)):DL L tm b9 K (.un op x) st:=by
 simp only[XE]at h;split at h
 ·rename_i k n e1
  obtain ⟨v,hv,hk⟩:=h;refine DL.val hr v (λ C => ?_) hk;simp only[c7,hr.ev e1 (by intro e;cases e),JS,JR,JT,FN,GY,LY,H3,KV,LB,hv,Option.map_some];cases op<;>simp only[WR,Option.some.injEq,reduceCtorEq]at hv<;>subst hv<;>rfl
 ·rename_i b e1
  split at h
  ·rw[U2]at h
   exact DL.val hr _ (λ C=>by simp only[c7,hr.ev e1 (by intro e;cases e),JS,JR,JT,FN,GY,LY,H3,KV,LB,WR,Option.map_some]) h
  ·exact h.elim
 ·exact h.elim
theorem Ph {k:IntKind} {x:B8} (hr:RX σ tm M st) (h:XE L tm M b9 K (.conv k x)):DL L tm b9 K (.conv k x) st:=by
 simp only[XE]at h;split at h
 ·rename_i k' n e1
  exact DL.val hr _ (λ C=>by simp only[c7,hr.ev e1 (by intro e;cases e),JS,JR,JT,FN,GY,LY,H3,KV,LB]) h
 ·exact h.elim
theorem Pb {s:Nat} {x:B8} (hr:RX σ tm M st) (h:XE L tm M b9 K (.box s x)):DL L tm b9 K (.box s x) st:=by
 simp only[XE]at h;obtain ⟨h0,cs,hc,h⟩:=gS h;obtain ⟨k,h1,h2,h3⟩:=KH h;refine ⟨.new s (CQ.blk σ k (.bx cs)) (λ t => .ptr s t 0 0),_,_,_,λ C => ?_,h3,?_,hr.bq h1 h2 (.bx cs) trivial (Fx (yG h2 x) hc) (λ h=>nomatch h)⟩
 ·simp only[c7,hr.ev rfl h0,TR hc,List.length_map,CQ.blk]
 ·simp only[ED.res,FN,GY,DM]
theorem Lc {s:Nat} {z:List AV} (hr:RX σ tm M st) (h:XE L tm M b9 K (.alloc s z)):DL L tm b9 K (.alloc s z) st:=by
 simp only[XE]at h;cases hd:G1 z<;>simp only[hd,cond_true,cond_false]at h;obtain ⟨k,h1,h2,h3⟩:=KH h;refine ⟨.new s (CQ.blk σ k (.bx z)) (λ t => .ptr s t 0 0),_,_,_,λ C => ?_,h3,?_,hr.bq h1 h2 (.bx z) trivial (lL hd) (λ h=>nomatch h)⟩
 ·simp only[c7,CQ.blk,L4 hd]
 ·simp only[ED.res,FN,GY,DM]
theorem cY {cs ds:List AV} {off n:Nat} (h:part cs off n=some ds):part (cs.map (CZ σ)) off n=some (ds.map (CZ σ)):=by
 simp only[part]at h ⊢;split at h
 ·rename_i hl
  rw[if_pos (by simpa using hl)];obtain rfl:=Option.some.inj h;rw[List.map_take,List.map_drop]
 ·cases h
theorem yI {v:AV} {K:AV->Prop} (h:fF v K):v ≠ .any/\C9 σ v=CZ σ v/\K v:=by
 cases v<;>simp only[fF]at h<;>first|exact h.elim|exact ⟨(by intro e;cases e),rfl,h⟩
theorem VE (σ:II) {agg:Bool} {ds:List AV} {K:AV->Prop} (h:jd agg ds K) : ∃ v,ME agg (ds.map (CZ σ))=some (C9 σ v)/\K v:=by
 cases agg
 ·simp only[jd]at h
  split at h
  ·rename_i c
   obtain ⟨_,h1,h2⟩:=yI (σ:=σ) h;exact ⟨c,by rw[h1];rfl,h2⟩
  ·exact h.elim
 ·exact ⟨.agg ds,rfl,h⟩
theorem Hk {cs vs:List AV} {j:Nat}:(splice cs j vs).map (CZ σ)=splice (cs.map (CZ σ)) j (vs.map (CZ σ)):=by
 simp only[splice,List.map_append,List.map_take,List.map_drop,List.length_map]
theorem yO (hr:RX σ tm M st) : ∀ {ps:List (Nat × Nat × B8)} {cells:List AV} {K:List AV->Prop},nG tm ps cells K -> ∃ cs,fill (cells.map (CZ σ)) (ps.map λ p=>(p.1,p.2.1,st.ev p.2.2))=some (cs.map (CZ σ))/\K cs
 | [],cells,K,h=>⟨cells,rfl,h⟩
 | p::r,cells,K,h=>by
  obtain ⟨h0,vs,hc,h⟩:=gS (show fC (ex tm p.2.2) λ vs=>bif Nat.beq vs.length p.2.1 then bif Nat.ble (p.1+p.2.1) cells.length then fL (splice cells p.1 vs) λ cells=>nG tm r cells K else False else False from h);cases hz:Nat.beq vs.length p.2.1<;>simp only[hz,cond_true,cond_false]at h;have hl:Nat.ble (p.1+p.2.1) cells.length=true:=by
   cases hl:Nat.ble (p.1+p.2.1) cells.length
   ·rw[hl]at h;exact h.elim
   ·rfl
  rw[hl]at h;simp only[cond_true,J6]at h;obtain ⟨cs,h1,h2⟩:=yO hr h;refine ⟨cs,?_,h2⟩;simp only[List.map_cons,fill,hr.ev rfl h0,TR hc,List.length_map];rw[if_pos ⟨DI.1 hz,Nat.le_of_ble_eq_true hl⟩,<-Hk];exact h1
theorem Pf {z:List AV} {ps:List (Nat × Nat × B8)} (hr:RX σ tm M st) (h:XE L tm M b9 K (.build z ps)):DL L tm b9 K (.build z ps) st:=by
 simp only[XE]at h;cases hd:G1 z<;>simp only[hd,cond_true,cond_false]at h;obtain ⟨cs,h1,h2⟩:=yO hr h;refine DL.val hr (.agg cs) (λ C => ?_) h2;rw[L4 hd]at h1;simp only[c7,h1];rfl
theorem yF : ∀ l:List B8,V4 tm l=l.map (ex tm)
 | []=>rfl
 | x::r=>by rw[V4,yF r];rfl
theorem vJ : ∀ {es:List (List AV)},bN es=true -> ∀ e∈es,G1 e=true
 | e0::r,h,e,he=>by
  simp only[bN]at h;cases h1:G1 e0<;>simp only[h1,cond_true,cond_false]at h
  ·cases h
  ·rcases List.mem_cons.1 he with rfl|he
   ·exact h1
   ·exact vJ h e he
theorem Qh {es:List (List AV)} (h : ∀ e∈es,G1 e=true):(es.map λ cs=>cs.map (CZ σ))=es:=by
 conv=>rhs;rw[<-List.map_id es]
 exact List.map_congr_left λ e he=>L4 (h e he)
theorem Zn {es:List (List AV)} {K:Nat->Prop} (h:oC es K):K es.length:=by
 unfold oC at h;split at h<;>exact h
theorem tH (hr:RX σ tm M st) {z:Nat} : ∀ {l:List B8} {K:List (List AV)->Prop},kW tm z l K -> ∃ es,l.mapM (λ x=>cellsOf (st.ev x))=some (es.map λ cs=>cs.map (CZ σ))/\(∀ e∈es,e.length=z)/\(∀ k,LA k tm=false->WG k es=false)/\K es
 | [],K,h=>⟨[],rfl,(λ e he=>by cases he),λ_ _=>rfl,h⟩
 | x::r,K,h=>by
  obtain ⟨h0,cs,hc,h⟩:=gS (show fC (ex tm x) λ cs=>bif Nat.beq cs.length z then kW tm z r λ es=>K (cs::es) else False from h);cases hz:Nat.beq cs.length z<;>simp only[hz,cond_true,cond_false]at h;obtain ⟨es,h1,h2,h4,h3⟩:=tH hr h;refine ⟨cs::es,?_,λ e he => ?_,λ k hk => ?_,h3⟩
  ·rw[List.mapM_cons,h1,hr.ev rfl h0,TR hc];rfl
  ·rcases List.mem_cons.1 he with rfl|he
   ·exact DI.1 hz
   ·exact h2 e he
  ·simp only[WG,Fx (yG hk x) hc,cond_false,h4 k hk]
theorem evL (hr:RX σ tm M st) {xs:List B8} (h : ∀ v∈V4 tm xs,v ≠ .any):xs.map st.ev=(V4 tm xs).map (C9 σ):=by
 rw[yF]at h ⊢;rw[List.map_map];exact List.map_congr_left λ x hx=>hr.ev rfl (h _ (List.mem_map_of_mem hx))
theorem Pc {s z:Nat} {ps:List B8} (hr:RX σ tm M st) (h:XE L tm M b9 K (.c4 s z ps)):DL L tm b9 K (.c4 s z ps) st:=by
 simp only[XE]at h;cases br:HM s<;>simp only[br,cond_true,cond_false]at h;obtain ⟨es,g1,g2,g3,h⟩:=tH hr h;obtain ⟨k,h1,h2,h3⟩:=KH (Zn h);have key : ∀ c:CQ,c.flat->K9 k c=false->c.blk σ k=⟨z,es.map λ cs=>cs.map (CZ σ)⟩->K (.row k 0 z 0 es.length) ((k,s,c)::M)->DL L tm b9 K (.c4 s z ps) st:=by
  intro c hf hc hb hk;refine ⟨.new s (c.blk σ k) (λ t => .row s t z 0 es.length),_,_,_,λ C => ?_,hk,?_,hr.bq h1 h2 c hf hc (λ_=>br)⟩
  ·simp only[c7,g1,hb]
   rw[if_pos (λ e he=>by obtain ⟨e',eb,rfl⟩:=List.mem_map.1 he;simpa using g2 e' eb)];simp only[List.length_map]
  ·simp only[ED.res,FN,DM]
 cases hd:bN es<;>simp only[hd,cond_true,cond_false]at h3
 ·exact key (.bs z es) trivial (g3 k h2) rfl h3
 ·exact key (.rw z es) trivial rfl (by simp only[CQ.blk];rw[Qh (vJ hd)]) h3
theorem Pl {x:B8} {off:Nat} (hr:RX σ tm M st) (h:XE L tm M b9 K (.a7 x off)):DL L tm b9 K (.a7 x off) st:=by
 simp only[XE]at h;split at h
 ·rename_i key t i j e
  exact DL.val hr _ (λ C=>by simp only[c7,hr.ev e (by intro e;cases e),JS,JR,JT,FN,GY,LY,H3,KV,LB]) h
 ·rename_i cs e
  rw[J6]at h;exact DL.val hr _ (λ C=>by simp only[c7,hr.ev e (by intro e;cases e),JS,JR,JT,FN,GY,LY,H3,KV,LB]) h
 ·exact h.elim
theorem Pm {x:B8} {off n:Nat} {agg:Bool} (hr:RX σ tm M st) (h:XE L tm M b9 K (.gx x off n agg)):DL L tm b9 K (.gx x off n agg) st:=by
 simp only[XE]at h;split at h
 ·rename_i cs e
  split at h
  ·rename_i ds hp
   rw[J6]at h;obtain ⟨v,h1,h2⟩:=VE σ h;exact DL.val hr v (λ C=>by simp only[c7,hr.ev e (by intro e;cases e),KV,cY hp,h1,Option.map_some]) h2
  ·exact h.elim
 ·exact h.elim
theorem Po {arr:Option Nat} {z:Nat} {x i:B8} (hr:RX σ tm M st) (h:XE L tm M b9 K (.a4 arr z x i)):DL L tm b9 K (.a4 arr z x i) st:=by
 simp only[XE]at h;split at h
 ·rename_i kd n e1
  split at h
  ·rename_i len key t i' j e2
   obtain ⟨h1,h2⟩:=h;exact DL.val hr _ (λ C=>by simp only[c7,hr.ev e1 (by intro e;cases e),hr.ev e2 (by intro e;cases e),JS,JR,JT,FN,GY,LY,H3,KV,LB];rw[if_pos h1]) h2
  ·rename_i len cs e2
   obtain ⟨h1,h2⟩:=h;rw[J6]at h2;exact DL.val hr _ (λ C=>by simp only[c7,hr.ev e1 (by intro e;cases e),hr.ev e2 (by intro e;cases e),JS,JR,JT,FN,GY,LY,H3,KV,LB];rw[if_pos h1]) h2
  ·rename_i key t z' off len e2
   cases hz:Nat.beq z' z<;>simp only[hz,cond_true,cond_false]at h;obtain ⟨h1,h2⟩:=h;exact DL.val hr _ (λ C=>by simp only[c7,hr.ev e1 (by intro e;cases e),hr.ev e2 (by intro e;cases e),JS,JR,JT,FN,GY,LY,H3,KV,LB];rw[if_pos ⟨h1.1,h1.2,DI.1 hz⟩]) h2
  ·rename_i q es e2
   obtain ⟨h1,cs,h2,h3,h4⟩:=h;exact DL.val hr _ (λ C=>by simp only[c7,hr.ev e1 (by intro e;cases e),hr.ev e2 (by intro e;cases e),JS,JR,JT,FN,GY,LY,H3,KV,LB,h2];rw[if_pos h1,if_pos h3]) h4
  ·exact h.elim
 ·exact h.elim
theorem Pp {len z:Nat} {agg:Bool} {x i:B8} (hr:RX σ tm M st) (h:XE L tm M b9 K (.idx len z agg x i)):DL L tm b9 K (.idx len z agg x i) st:=by
 simp only[XE]at h;split at h
 ·rename_i kd n cs e1 e2
  obtain ⟨h0,h⟩:=h;split at h
  ·rename_i ds hp
   rw[J6]at h;obtain ⟨v,h1,h2⟩:=VE σ h;exact DL.val hr v (λ C=>by simp only[c7,hr.ev e1 (by intro e;cases e),hr.ev e2 (by intro e;cases e),JS,JR,JT,FN,GY,LY,H3,KV,LB,cY hp,h1,Option.map_some];rw[if_pos h0]) h2
  ·exact h.elim
 ·exact h.elim
theorem Z1 {s:Nat} {own:BT} : ∀ {b9:List Nat},WE s b9=true->own.m4 b9 s=own s
 | [],_=>rfl
 | b::r,h=>by
  have hm:U8 s (b::r)=false:=by simpa [WE] using h
  have : ∀ l:List Nat,U8 s l=false->own.m4 l s=own s:=by
   intro l;induction l with
   | nil=>intro _;rfl
   | cons b r ih =>
    intro h;simp only[U8]at h;cases hb:Nat.beq s b<;>simp only[hb,cond_true,cond_false]at h
    ·simp only[BT.m4]
     rw[if_neg (IE.1 hb)];exact ih h
    ·cases h
  exact this _ hm
theorem oR {s:Nat} {own:BT} (hs:HM s=true) : ∀ {b9:List Nat},X1 b9=true->own.m4 b9 s=own s
 | [],_=>rfl
 | b::r,h=>by
  simp only[X1]at h;cases hb:HM b<;>simp only[hb,cond_true,cond_false]at h
  ·have hne:s≠b:=λ e=>by rw[e,hb]at hs;cases hs
   show (if s=b then _ else own.m4 r s)=own s;rw[if_neg hne];exact oR hs h
  ·cases h
theorem Pr {agg:Bool} {n:Nat} {x:B8} (hr:RX σ tm M st) (h:XE L tm M b9 K (.ld agg n x)):DL L tm b9 K (.ld agg n x) st:=by
 simp only[XE]at h;split at h
 ·rename_i key t i j e
  split at h
  ·rename_i s c hm
   have hs:=hr.sat.site _ _ _ hm;split at h
   ·cases hb:WE s b9<;>simp only[hb,cond_true,cond_false]at h
    have s9:=hr.sat.blk _ _ _ (GK hm);rw[hs]at s9;split at h
    ·rename_i cs
     cases hi:Nat.beq i 0<;>simp only[hi,cond_true,cond_false]at h;obtain rfl:=DI.1 hi;split at h
     ·rename_i ds hp
      rw[J6]at h;obtain ⟨v,h1,h2⟩:=VE σ h;exact DL.val hr v (λ C=>by
       simp only[c7,hr.ev e (by intro e;cases e),GY,BT.jb,BT.get,hs];rw[Z1 hb,s9];simp only[CQ.blk,List.getElem?_cons_zero,cY hp,h1,Option.map_some]) h2
     ·exact h.elim
    ·rename_i z es
     obtain ⟨cs,ds,g1,g2,h⟩:=h;rw[J6]at h;cases hd:G1 ds<;>simp only[hd,cond_true,cond_false]at h;obtain ⟨v,h1,h2⟩:=VE σ h;rw[L4 hd]at h1;exact DL.val hr v (λ C=>by
      simp only[c7,hr.ev e (by intro e;cases e),GY,BT.jb,BT.get,hs];rw[Z1 hb,s9];simp only[CQ.blk,g1,g2,h1,Option.map_some]) h2
    ·rename_i z es
     split at h
     ·rename_i cs g1
      split at h
      ·rename_i ds hp
       rw[J6]at h;obtain ⟨v,h1,h2⟩:=VE σ h;exact DL.val hr v (λ C=>by
        simp only[c7,hr.ev e (by intro e;cases e),GY,BT.jb,BT.get,hs];rw[Z1 hb,s9];simp only[CQ.blk,List.getElem?_map,g1,Option.map_some,cY hp,h1]) h2
      ·exact h.elim
     ·exact h.elim
    ·rename_i rows
     cases hj:Nat.beq j 0<;>simp only[hj,cond_true,cond_false]at h;cases hn:Nat.beq n 1<;>simp only[hn,cond_true,cond_false]at h;obtain rfl:=DI.1 hj;obtain rfl:=DI.1 hn;obtain ⟨r,g1,h⟩:=h;have fin : ∀ c:AV,(DZ σ key 0 rows)[i]? = some [CZ σ c]->jd agg [c] (λ v=>K v M)->DL L tm b9 K (.ld agg 1 x) st:=by
      intro c hc h;obtain ⟨v,h1,h2⟩:=VE σ h;have hp:part [CZ σ c] 0 1=some [CZ σ c]:=by simp [part]
      exact DL.val hr v (λ C=>by
       simp only[c7,hr.ev e (by intro e;cases e),GY,BT.jb,BT.get,hs];rw[Z1 hb,s9];simp only[CQ.blk,hc,hp];simp only[List.map_cons,List.map_nil]at h1;simp only[h1,Option.map_some]) h2
     split at h
     ·rename_i z es
      exact fin _ (by rw[H0,g1];simp [CZ]) h
     ·exact fin _ (by rw[H0,g1];simp [CZ]) h
    ·exact h.elim
    ·exact h.elim
   ·rename_i i'
    split at h
    ·rename_i rows
     obtain ⟨z,es,g0,cs,ds,g1,g2,h⟩:=h;rw[J6]at h;cases hd:G1 ds<;>simp only[hd,cond_true,cond_false]at h;obtain ⟨v,h1,h2⟩:=VE σ h;rw[L4 hd]at h1;have s9:=hr.sat.blk key (i'+1) (.rw z es) (by simp [b7,hm,g0]);exact DL.val hr v (λ C=>by
      simp only[c7,hr.ev e (by intro e;cases e),GY,BT.jb,BT.get,BT.m4];rw[s9];simp only[CQ.blk,g1,g2,h1,Option.map_some]) h2
    ·rename_i rows b r
     cases hb:X1 (b::r)<;>simp only[hb,cond_true,cond_false]at h;obtain ⟨z,es,g0,cs,ds,g1,g2,h⟩:=h;rw[J6]at h;cases hd:G1 ds<;>simp only[hd,cond_true,cond_false]at h;obtain ⟨v,h1,h2⟩:=VE σ h;rw[L4 hd]at h1;have g':b7 M key (i'+1)=some (.rw z es):=by simp [b7,hm,g0]
     have s9:=hr.sat.blk key (i'+1) (.rw z es) g';have br:=hr.sat.low key (i'+1) _ g' rfl;exact DL.val hr v (λ C=>by
      simp only[c7,hr.ev e (by intro e;cases e),GY,BT.jb,BT.get];rw[oR br hb,s9];simp only[CQ.blk,g1,g2,h1,Option.map_some]) h2
    ·exact h.elim
  ·exact h.elim
 ·rename_i cs e
  split at h
  ·rename_i ds hp
   rw[J6]at h;cases hd:G1 ds<;>simp only[hd,cond_true,cond_false]at h;obtain ⟨v,h1,h2⟩:=VE σ h;rw[L4 hd]at h1;exact DL.val hr v (λ C=>by simp only[c7,hr.ev e (by intro e;cases e),LY,hp,h1,Option.map_some]) h2
  ·exact h.elim
 ·exact h.elim
theorem sQ {n:Nat} {x v:B8} (hr:RX σ tm M st) (h:XE L tm M b9 K (.st n x v)):DL L tm b9 K (.st n x v) st:=by
 simp only[XE,qP]at h;split at h
 ·rename_i key t i j e
  obtain ⟨h0,vs,hc,h5⟩:=gS h;clear h;cases hn:Nat.beq vs.length n<;>simp only[hn,cond_true,cond_false]at h5;have jo:=DI.1 hn;split at h5
  ·rename_i s c hm
   have hs:=hr.sat.site _ _ _ hm;split at h5
   ·have s9:=hr.sat.blk _ _ _ (GK hm)
    rw[hs]at s9;split at h5
    ·rename_i cs
     cases hi:Nat.beq i 0<;>simp only[hi,cond_true,cond_false]at h5;obtain rfl:=DI.1 hi;have hl:Nat.ble (j+vs.length) cs.length=true:=by
      cases hl:Nat.ble (j+vs.length) cs.length
      ·rw[hl]at h5;exact h5.elim
      ·rfl
     rw[hl]at h5;simp only[cond_true,J6]at h5;refine ⟨.af (.tup []) (st.own.put s ((st.own s).n7 (σ key 0).2 (some (CQ.blk σ key (.bx (splice cs j vs)))))),σ,_,_,λ C => ?_,h5,rfl,hr.yp hm trivial _ trivial (λ h=>nomatch h)⟩;simp only[c7,hr.ev e (by intro e;cases e),GY,hr.ev rfl h0,TR hc,List.length_map];rw[if_pos jo];simp only[BT.fm,BT.get,hs,s9,CQ.blk,List.getElem?_cons_zero,List.length_map];rw[if_pos (Nat.le_of_ble_eq_true hl)];simp only[Option.map_some,List.set_cons_zero,Hk];have:(splice cs j vs).length=cs.length:=by
      have:=Nat.le_of_ble_eq_true hl
      simp only[splice,List.length_append,List.length_take,List.length_drop];omega
     rw[this]
    ·rename_i z es
     cases hd:G1 vs<;>simp only[hd,cond_true,cond_false]at h5;obtain ⟨cs,g1,g2,h5⟩:=h5;refine ⟨.af (.tup []) (st.own.put s ((st.own s).n7 (σ key 0).2 (some (CQ.blk σ key (.rw z (es.set i (splice cs j vs))))))),σ,_,_,λ C => ?_,h5,rfl,hr.yp hm trivial _ trivial (λ_=>rfl)⟩;simp only[c7,hr.ev e (by intro e;cases e),GY,hr.ev rfl h0,TR hc,L4 hd];rw[if_pos jo];simp only[BT.fm,BT.get,hs,s9,CQ.blk,g1];rw[if_pos g2];rfl
    ·exact h5.elim
    ·rename_i rows
     split at h5
     ·rename_i q9 z m
      cases hkk:Nat.beq key q9<;>simp only[hkk,cond_true,cond_false]at h5;cases w4:MS key tm<;>simp only[w4,cond_true,cond_false]at h5;cases hcm:LH key M<;>simp only[hcm,cond_true,cond_false]at h5;cases hj:Nat.beq j 0<;>simp only[hj,cond_true,cond_false]at h5;obtain rfl:=DI.1 hj;split at h5
      ·rename_i s2 z' es hm2
       cases hz:Nat.beq z z'<;>simp only[hz,cond_true,cond_false]at h5;obtain rfl:=DI.1 hz;rw[N3]at h5;obtain ⟨rfl,hi,h5⟩:=h5;have hlen:(DZ σ key 0 rows)[i]? = some ((DZ σ key 0 rows)[i]'(by rw[H1];exact hi)):=zE _;have cj:((DZ σ key 0 rows)[i]'(by rw[H1];exact hi)).length=1:=by
        have:=H0 (σ:=σ) (k:=key) rows 0 i
        rw[hlen,zE hi]at this;simp only[Option.map_some,Option.some.injEq]at this;rw[this];split<;>rfl
       refine ⟨.af (.tup []) (st.own.put s ((st.own s).n7 (σ key 0).2 (some ⟨1,(DZ σ key 0 rows).set i [.row (σ q9 0).1 (σ q9 0).2 z 0 es.length]⟩))),_,_,_,λ C => ?_,h5,rfl,hr.se hm (Or.inl rfl) hm2 (IE.1 hkk) w4 hcm hi⟩;simp only[c7,hr.ev e (by intro e;cases e),GY,hr.ev rfl h0,TR hc,List.length_map];rw[if_pos jo];simp only[BT.fm,BT.get,hs,s9,CQ.blk,hlen,List.map_cons,List.map_nil,List.length_cons,List.length_nil,CZ];rw[if_pos (by omega)];simp only[Option.map_some];have wh:splice ((DZ σ key 0 rows)[i]'(by rw[H1];exact hi)) 0 [.row (σ q9 0).1 (σ q9 0).2 z 0 es.length]=[.row (σ q9 0).1 (σ q9 0).2 z 0 es.length]:=by
        simp only[splice,List.take_zero,List.nil_append,List.length_cons,List.length_nil,Nat.zero_add];rw[List.drop_of_length_le (by omega)];rfl
       rw[wh]
      ·exact h5.elim
     ·rename_i q9 t2 z m
      cases hkk:Nat.beq key q9<;>simp only[hkk,cond_true,cond_false]at h5;cases hj:Nat.beq j 0<;>simp only[hj,cond_true,cond_false]at h5;obtain rfl:=DI.1 hj;obtain rfl:=DI.1 hkk;obtain ⟨z',es,g0,h5⟩:=h5;cases hz:Nat.beq z z'<;>simp only[hz,cond_true,cond_false]at h5;obtain rfl:=DI.1 hz;obtain ⟨⟨rfl,hi⟩,h5⟩:=h5;have o4:CQ.blk σ key (.vw ((List.range rows.length).set i t2) rows)=⟨1,(DZ σ key 0 rows).set i [.row (σ key (t2+1)).1 (σ key (t2+1)).2 z 0 es.length]⟩:=by
       simp only[CQ.blk];congr 1;apply List.ext_getElem?;intro p;rw[List.getElem?_map];by_cases hp:i=p
       ·subst hp
        rw[List.getElem?_set_self (by rw[List.length_range];exact hi),List.getElem?_set_self (by rw[H1];exact hi),Option.map_some,H0,g0];simp
       ·rw[List.getElem?_set_ne hp,List.getElem?_set_ne hp,H0]
        by_cases tf:p<rows.length
        ·rw[List.getElem?_range tf,Option.map_some,H0,zE tf,Option.map_some,Option.getD_some]
        ·rw[List.getElem?_eq_none (by rw[List.length_range];omega),List.getElem?_eq_none (by omega)];rfl
      have hv:=hr.view (w:=(List.range rows.length).set i t2) hm (Or.inl rfl);have hlen:(DZ σ key 0 rows)[i]? = some ((DZ σ key 0 rows)[i]'(by rw[H1];exact hi)):=zE _;have cj:((DZ σ key 0 rows)[i]'(by rw[H1];exact hi)).length=1:=by
       have:=H0 (σ:=σ) (k:=key) rows 0 i
       rw[hlen,zE hi]at this;simp only[Option.map_some,Option.some.injEq]at this;rw[this];split<;>rfl
      refine ⟨.af (.tup []) (st.own.put s ((st.own s).n7 (σ key 0).2 (some (CQ.blk σ key (.vw ((List.range rows.length).set i t2) rows))))),_,_,_,λ C => ?_,h5,rfl,hv⟩;rw[o4];simp only[c7,hr.ev e (by intro e;cases e),GY,hr.ev rfl h0,TR hc,List.length_map];rw[if_pos jo];simp only[BT.fm,BT.get,hs,s9,CQ.blk,hlen,List.map_cons,List.map_nil,List.length_cons,List.length_nil,CZ];rw[if_pos (by omega)];simp only[Option.map_some];have wh:splice ((DZ σ key 0 rows)[i]'(by rw[H1];exact hi)) 0 [.row (σ key (t2+1)).1 (σ key (t2+1)).2 z 0 es.length]=[.row (σ key (t2+1)).1 (σ key (t2+1)).2 z 0 es.length]:=by
       simp only[splice,List.take_zero,List.nil_append,List.length_cons,List.length_nil,Nat.zero_add];rw[List.drop_of_length_le (by omega)];rfl
      rw[wh]
     ·exact h5.elim
    ·rename_i i0 v0 rows
     split at h5
     ·rename_i q9 z m
      cases hkk:Nat.beq key q9<;>simp only[hkk,cond_true,cond_false]at h5;cases w4:MS key tm<;>simp only[w4,cond_true,cond_false]at h5;cases hcm:LH key M<;>simp only[hcm,cond_true,cond_false]at h5;cases hj:Nat.beq j 0<;>simp only[hj,cond_true,cond_false]at h5;obtain rfl:=DI.1 hj;split at h5
      ·rename_i s2 z' es hm2
       cases hz:Nat.beq z z'<;>simp only[hz,cond_true,cond_false]at h5;obtain rfl:=DI.1 hz;rw[N3]at h5;obtain ⟨⟨rfl,rfl⟩,hi,h5⟩:=h5;refine ⟨.af (.tup []) (st.own.put s ((st.own s).n7 (σ key 0).2 (some ⟨1,(DZ σ key 0 rows).set i [.row (σ q9 0).1 (σ q9 0).2 z 0 es.length]⟩))),_,_,_,λ C => ?_,h5,rfl,hr.se hm (Or.inr ⟨v0,rfl⟩) hm2 (IE.1 hkk) w4 hcm hi⟩;simp only[c7,hr.ev e (by intro e;cases e),GY,hr.ev rfl h0,TR hc,List.length_map];rw[if_pos jo];simp only[BT.fm,BT.get,hs,s9,CQ.blk,List.getElem?_set_self (show i<(DZ σ key 0 rows).length by rw[H1];exact hi),List.map_cons,List.map_nil,List.length_cons,List.length_nil,CZ];rw[if_pos (by omega)];simp only[Option.map_some,List.set_set];rfl
      ·exact h5.elim
     ·exact h5.elim
    ·rename_i w rows
     split at h5
     ·rename_i q9 t2 z m
      cases hkk:Nat.beq key q9<;>simp only[hkk,cond_true,cond_false]at h5;cases hj:Nat.beq j 0<;>simp only[hj,cond_true,cond_false]at h5;obtain rfl:=DI.1 hj;obtain rfl:=DI.1 hkk;obtain ⟨z',es,g0,h5⟩:=h5;cases hz:Nat.beq z z'<;>simp only[hz,cond_true,cond_false]at h5;obtain rfl:=DI.1 hz;obtain ⟨⟨rfl,hi,hwr⟩,h5⟩:=h5;have o4:CQ.blk σ key (.vw (w.set i t2) rows)=⟨1,(w.map λ t=>((DZ σ key 0 rows)[t]?).getD []).set i [.row (σ key (t2+1)).1 (σ key (t2+1)).2 z 0 es.length]⟩:=by
       simp only[CQ.blk];congr 1;apply List.ext_getElem?;intro p;rw[List.getElem?_map];by_cases hp:i=p
       ·subst hp
        rw[List.getElem?_set_self hi,List.getElem?_set_self (by rw[List.length_map];exact hi),Option.map_some,H0,g0];simp
       ·rw[List.getElem?_set_ne hp,List.getElem?_set_ne hp,List.getElem?_map]
      have hv:=hr.view (w:=w.set i t2) hm (Or.inr ⟨w,rfl⟩);have hlen:(w.map λ t=>((DZ σ key 0 rows)[t]?).getD [])[i]? = some ((w.map λ t=>((DZ σ key 0 rows)[t]?).getD [])[i]'(by rw[List.length_map];exact hi)):=zE _;have cj:((w.map λ t=>((DZ σ key 0 rows)[t]?).getD [])[i]'(by rw[List.length_map];exact hi)).length=1:=by
       rw[List.getElem_map];have l6:=hwr w[i] (List.getElem_mem hi);rw[H0,zE l6];simp only[Option.map_some,Option.getD_some];split<;>rfl
      refine ⟨.af (.tup []) (st.own.put s ((st.own s).n7 (σ key 0).2 (some (CQ.blk σ key (.vw (w.set i t2) rows))))),_,_,_,λ C => ?_,h5,rfl,hv⟩;rw[o4];simp only[c7,hr.ev e (by intro e;cases e),GY,hr.ev rfl h0,TR hc,List.length_map];rw[if_pos jo];simp only[BT.fm,BT.get,hs,s9,CQ.blk,hlen,List.map_cons,List.map_nil,List.length_cons,List.length_nil,CZ];rw[if_pos (by omega)];simp only[Option.map_some];have wh:splice ((w.map λ t=>((DZ σ key 0 rows)[t]?).getD [])[i]'(by rw[List.length_map];exact hi)) 0 [.row (σ key (t2+1)).1 (σ key (t2+1)).2 z 0 es.length]=[.row (σ key (t2+1)).1 (σ key (t2+1)).2 z 0 es.length]:=by
       simp only[splice,List.take_zero,List.nil_append,List.length_cons,List.length_nil,Nat.zero_add];rw[List.drop_of_length_le (by omega)];rfl
      rw[wh]
     ·exact h5.elim
   ·rename_i i'
    split at h5
    ·rename_i rows
     cases hd:G1 vs<;>simp only[hd,cond_true,cond_false]at h5;obtain ⟨z,es,g0,cs,g1,g2,g3,h5⟩:=h5;have s9:=hr.sat.blk key (i'+1) (.rw z es) (by simp [b7,hm,g0]);refine ⟨.af (.tup []) (st.own.put (σ key (i'+1)).1 ((st.own (σ key (i'+1)).1).n7 (σ key (i'+1)).2 (some ⟨z,es.set i (splice cs j vs)⟩))),σ,_,_,λ C => ?_,h5,rfl,hr.Cb hm g0 g3⟩;simp only[c7,hr.ev e (by intro e;cases e),GY,hr.ev rfl h0,TR hc,L4 hd];rw[if_pos jo];simp only[BT.fm,BT.get,s9,CQ.blk,g1];rw[if_pos g2];rfl
    ·exact h5.elim
  ·exact h5.elim
 ·exact h.elim
theorem Pu {s z bytes:Nat} {zero:List AV} {a c:B8} (hr:RX σ tm M st) (h:XE L tm M b9 K (.mk s z bytes zero a c)):DL L tm b9 K (.mk s z bytes zero a c) st:=by
 simp only[XE]at h;split at h
 ·rename_i k1 p k2 q e1 e2
  cases hz:Nat.beq zero.length z<;>simp only[hz,cond_true,cond_false]at h;cases hd:G1 zero<;>simp only[hd,cond_true,cond_false]at h;split at h
  ·cases br:HM s<;>simp only[br,cond_true,cond_false]at h
   obtain ⟨⟨g1,g2,g3,g4⟩,h⟩:=h;obtain ⟨k,h1,h2,h3⟩:=KH h;have hfl:CQ.flat (.mx (List.replicate p.toNat none)):=by
    intro i x hx;have:=List.getElem?_replicate (n:=p.toNat) (a:=(none:Option (Nat × List (List AV)))) (i:=i)
    rw[this]at hx;split at hx<;>cases hx
   have hz1:z=1:=(DI.1 hz).symm;have hbl:CQ.blk σ k (.mx (List.replicate p.toNat none))=⟨z,List.replicate p.toNat [.nil]⟩:=by
    simp only[CQ.blk,hz1];congr 1;have : ∀ (n i:Nat),DZ σ k i (List.replicate n none)=List.replicate n [AV.nil]:=by
     intro n;induction n with
     | zero=>intro i;rfl
     | succ n ih=>intro i;rw[List.replicate_succ,List.replicate_succ,DZ,ih]
    exact this _ _
   refine ⟨.new s (CQ.blk σ k (.mx (List.replicate p.toNat none))) (λ t => .row s t z 0 p.toNat),_,_,_,λ C => ?_,h3,?_,hr.bq h1 h2 (.mx _) hfl rfl (λ_=>br)⟩
   ·simp only[c7,hr.ev e1 (by intro e;cases e),hr.ev e2 (by intro e;cases e),JS,hbl]
    rw[if_pos ⟨g1,g2,g3,g4,DI.1 hz⟩]
   ·simp only[ED.res,FN,DM]
  ·cases br:HM s<;>simp only[br,cond_true,cond_false]at h
   obtain ⟨⟨g1,g2,g3,g4⟩,h⟩:=h;obtain ⟨k,h1,h2,h3⟩:=KH h;refine ⟨.new s ⟨z,List.replicate p.toNat zero⟩ (λ t => .row s t z 0 p.toNat),_,_,_,λ C => ?_,h3,?_,hr.bq h1 h2 (.rw z _) trivial rfl (λ_=>br)⟩
   ·simp only[c7,hr.ev e1 (by intro e;cases e),hr.ev e2 (by intro e;cases e),JS]
    rw[if_pos ⟨g1,g2,g3,g4,DI.1 hz⟩]
   ·simp only[ED.res,FN,DM]
 ·exact h.elim
theorem yH {v:AV} {K:AV->Prop} (h:f2 v K):v ≠ .any/\C9 σ v=DP σ v/\K v:=by
 cases v<;>simp only[f2,J6]at h<;>first|exact h.elim|exact ⟨(by intro e;cases e),rfl,h⟩
theorem Dz : ∀ (vs:List AV) (i:Nat),od vs i ≠ .any->vs[i]? = some (od vs i)
 | [],_,h=>absurd rfl h
 | _::_,0,_=>rfl
 | _::r,i+1,h=>Dz r i h
theorem Pk {x:B8} {i:Nat} (hr:RX σ tm M st) (h:XE L tm M b9 K (.ext x i)):DL L tm b9 K (.ext x i) st:=by
 simp only[XE]at h;split at h
 ·rename_i vs e
  obtain ⟨h1,h2,h3⟩:=yH (σ:=σ) h;refine DL.val hr _ (λ C => ?_) h3;simp only[c7,hr.ev e (by intro e;cases e),LB,List.getElem?_map,Dz vs i h1,Option.map_some,h2]
 ·exact h.elim
theorem Ps {x:B8} (hr:RX σ tm M st) (h:XE L tm M b9 K (.len x)):DL L tm b9 K (.len x) st:=by
 simp only[XE]at h;split at h
 ·rename_i q es e
  exact DL.val hr _ (λ C=>by simp only[c7,hr.ev e (by intro e;cases e),JT,lenOf];rfl) h
 ·rename_i e
  exact DL.val hr _ (λ C=>by simp only[c7,hr.ev e (by intro e;cases e),H3,lenOf];rfl) h
 ·rename_i e
  exact DL.val hr _ (λ C=>by simp only[c7,hr.ev e (by intro e;cases e),FN,lenOf];rfl) h
 ·exact h.elim
theorem Co {mx:Bool} {k:IntKind} {K:AV->Prop} : ∀ {l:List AV} {a:Int},XV mx k K a l -> ∃ n,N8 mx (.int k a) l=some (.int k n)/\K (.int k n)/\(∀ v∈l,v ≠ .any/\C9 σ v=v)
 | [],a,h=>⟨a,rfl,h,λ v hv=>by cases hv⟩
 | v::r,a,h=>by
  cases v with
  | int k' b =>
   have h:(bif mx then BJ (a<b) (b<=a) (XV mx k K b r) (XV mx k K a r) else BJ (b<a) (a<=b) (XV mx k K b r) (XV mx k K a r)):=h;have fin : ∀ c:Int,U9 mx (.int k a) (.int k' b)=some (.int k c)->XV mx k K c r -> ∃ n,N8 mx (.int k a) (.int k' b::r)=some (.int k n)/\K (.int k n)/\(∀ v∈AV.int k' b::r,v ≠ .any/\C9 σ v=v):=by
    intro c hc hx;obtain ⟨n,h1,h2,h3⟩:=Co hx;refine ⟨n,by simp only[N8,hc,h1],h2,λ v hv => ?_⟩;rcases List.mem_cons.1 hv with rfl|hv
    ·exact ⟨(by intro e;cases e),rfl⟩
    ·exact h3 v hv
   cases mx
   ·simp only[cond_false]at h
    by_cases hc:b<a
    ·exact fin b (by simp [U9,hc]) (h.1 hc)
    ·exact fin a (by simp [U9,hc]) (h.2 (by omega))
   ·simp only[cond_true]at h
    by_cases hc:a<b
    ·exact fin b (by simp [U9,hc]) (h.1 hc)
    ·exact fin a (by simp [U9,hc]) (h.2 (by omega))
  | _=>exact (h:False).elim
theorem Nu {mx:Bool} {xs:List B8} (hr:RX σ tm M st) (h:XE L tm M b9 K (.mm mx xs)):DL L tm b9 K (.mm mx xs) st:=by
 simp only[XE]at h;split at h
 ·rename_i k a r e
  obtain ⟨n,h1,h2,h3⟩:=Co (σ:=σ) h;refine DL.val hr (.int k n) (λ C => ?_) h2;have hx : ∀ v∈V4 tm xs,v ≠ .any:=by
   rw[e];intro v hv;rcases List.mem_cons.1 hv with rfl|hv
   ·intro e;cases e
   ·exact (h3 v hv).1
  have hm:(V4 tm xs).map (C9 σ) = .int k a::r:=by
   rw[e,List.map_cons];congr 1;conv=>rhs;rw[<-List.map_id r]
   exact List.map_congr_left λ v hv=>(h3 v hv).2
  simp only[c7];rw[show xs.map st.ev = .int k a::r from (evL hr hx).trans hm];simp only[h1,Option.map_some,JS]
 ·exact h.elim
theorem AkB (hr:RX σ tm M st) {k t:Nat} {K:Nat->List (List AV)->Prop} (h:pP M k t K) : ∃ z es,(st.own (σ k t).1).blk (σ k t).2=some ⟨z,es⟩/\K z es:=by
 unfold pP at h;split at h
 ·rename_i s c hm
  split at h
  ·split at h
   ·exact ⟨_,_,hr.sat.blk _ _ _ (GK hm),h⟩
   ·exact h.elim
  ·rename_i i
   split at h
   ·rename_i rows
    obtain ⟨z,es,g,h⟩:=h;exact ⟨z,es,hr.sat.blk k (i+1) (.rw z es) (by simp [b7,hm,g]),h⟩
   ·exact h.elim
 ·exact h.elim
theorem Ak3 {own l8:BT} {s t i j:Nat} {vs:List AV} (h:own.fm s t i j vs=some l8):own.put s (l8 s)=l8:=by
 unfold BT.fm at h;cases hg:own.get s t with
 | none=>simp [hg]at h
 | some b =>
  simp only[hg]at h;cases he:b.es[i]? with
  | none=>simp [he]at h
  | some cs =>
   simp only[he]at h;split at h
   ·obtain rfl:=Option.some.inj h
    rw[BT.e7]
   ·cases h
theorem Oa {s n:Nat} {x v:B8} (hr:RX σ tm M st) (h:XE L tm M b9 K (.gu s n x v)):DL L tm b9 K (.gu s n x v) st:=by
 simp only[XE]at h;split at h
 ·rename_i key i j e1
  split at h
  ·rename_i s' c hm
   cases hb:Nat.beq s' s<;>simp only[hb,cond_true,cond_false]at h;obtain rfl:=DI.1 hb;have bp:=hr.sat.site _ _ _ hm;obtain ⟨E,σ',v',M',h1,h2,h3,h4⟩:=sQ (b9:=b9) (L:=L) hr (show XE L tm M b9 K (.st n x v) from h);have u5:=hr.ev e1 (by intro e;cases e);rw[GY,bp]at u5;have key : ∀ vs,cellsOf (st.ev v)=some vs->vs.length=n -> ∃ o',st.own.fm s' (σ key 0).2 i j vs=some o'/\E = .af (.tup []) o':=λ vs dw hn=>by
    have:=h1 0
    simp only[c7,u5,dw]at this;rw[if_pos hn,Option.map_eq_some_iff]at this;obtain ⟨o',a1,a2⟩:=this;exact ⟨o',a1,a2.symm⟩
   cases dw:cellsOf (st.ev v) with
   | none=>have:=h1 0;simp [c7,u5,dw]at this
   | some vs =>
    by_cases hn:vs.length=n
    ·obtain ⟨o',a1,rfl⟩:=key vs dw hn
     refine ⟨.n7 s' (o' s'),σ',v',M',λ C => ?_,h2,h3,?_⟩
     ·simp only[c7,u5,dw]
      rw[if_pos ⟨trivial,hn⟩,a1];rfl
     ·have e2:(ED.res st.own (.n7 s' (o' s'))).2=o':=Ak3 a1
      rw[e2];exact h4
    ·have:=h1 0
     simp only[c7,u5,dw]at this;rw[if_neg hn]at this;cases this
  ·exact h.elim
 ·exact h.elim
theorem Pq {ne:Bool} {x:B8} (hr:RX σ tm M st) (h:XE L tm M b9 K (.jz ne x)):DL L tm b9 K (.jz ne x) st:=by
 simp only[XE]at h;split at h
 ·rename_i e1
  rw[U2]at h;exact DL.val hr _ (λ C=>by simp only[c7,hr.ev e1 (by intro e;cases e),H3,JR]) h
 ·rename_i b e1
  rw[U2]at h;exact DL.val hr _ (λ C=>by simp only[c7,hr.ev e1 (by intro e;cases e),AkC,JR]) h
 ·rename_i q es e1
  obtain ⟨h0,h⟩:=h;rw[U2]at h;cases es with
  | nil=>exact absurd rfl h0
  | cons e es=>exact DL.val hr _ (λ C=>by simp only[c7,hr.ev e1 (by intro e;cases e),JT,JR]) h
 ·rename_i s t z o n e1
  obtain ⟨h0,h⟩:=h;rw[U2]at h;cases n with
  | zero=>exact absurd h0 (by omega)
  | succ n=>exact DL.val hr _ (λ C=>by simp only[c7,hr.ev e1 (by intro e;cases e),FN,JR]) h
 ·exact h.elim
theorem Nw {x:B8} (hr:RX σ tm M st) (h:XE L tm M b9 K (.kj x)):DL L tm b9 K (.kj x) st:=by
 simp only[XE]at h;split at h
 ·rename_i key t i j e
  exact DL.val hr _ (λ C=>by simp only[c7,hr.ev e (by intro e;cases e),GY]) h
 ·exact h.elim
theorem Pg {x:B8} (hr:RX σ tm M st) (h:XE L tm M b9 K (.bh x)):DL L tm b9 K (.bh x) st:=by
 simp only[XE]at h;split at h
 ·rename_i e
  exact DL.val hr _ (λ C=>by simp only[c7,hr.ev e (by intro e;cases e),H3];rfl) h
 ·exact h.elim
theorem Lh {s z bytes:Nat} {x y:B8} (hr:RX σ tm M st) (h:XE L tm M b9 K (.gv s z bytes x y)):DL L tm b9 K (.gv s z bytes x y) st:=by
 simp only[XE]at h;split at h
 ·rename_i k n e1 e2
  cases br:HM s<;>simp only[br,cond_true,cond_false]at h;obtain ⟨⟨g1,g2,g3⟩,h⟩:=h;obtain ⟨k,h1,h2,h3⟩:=KH h;refine ⟨.new s ⟨z,[]⟩ (λ t => .row s t z 0 n.toNat),_,_,_,λ C => ?_,h3,?_,hr.bq h1 h2 (.rw z []) trivial rfl (λ_=>br)⟩
  ·simp only[c7,hr.ev e1 (by intro e;cases e),hr.ev e2 (by intro e;cases e),JS,H3]
   rw[if_pos ⟨g1,g2,g3⟩]
  ·simp only[ED.res,FN,DM]
 ·exact h.elim
theorem Ld {s z bytes:Nat} {x y:B8} (hr:RX σ tm M st) (h:XE L tm M b9 K (.il s z bytes x y)):DL L tm b9 K (.il s z bytes x y) st:=by
 simp only[XE]at h;split at h
 ·rename_i q ys e1 e2
  cases br:HM s<;>simp only[br,cond_true,cond_false]at h;obtain ⟨g1,g2,g3,g4,h⟩:=h;obtain ⟨k,h1,h2,h3⟩:=KH h;refine ⟨.new s ⟨z,ys⟩ (λ t => .row s t z 0 ys.length),_,_,_,λ C => ?_,h3,?_,hr.bq h1 h2 (.rw z ys) trivial rfl (λ_=>br)⟩
  ·simp only[c7,hr.ev e1 (by intro e;cases e),hr.ev e2 (by intro e;cases e),H3,JT]
   rw[if_pos ⟨g1,g4,g2,g3⟩]
  ·simp only[ED.res,FN,DM]
 ·exact h.elim
theorem Ny {tb:List Nat} {x:B8} (hr:RX σ tm M st) (h:XE L tm M b9 K (.cr tb x)):DL L tm b9 K (.cr tb x) st:=by
 simp only[XE]at h;split at h
 ·rename_i k n e1
  obtain ⟨h0,v,h1,h2⟩:=h;exact DL.val hr _ (λ C=>by simp only[c7,hr.ev e1 (by intro e;cases e),JS,h1];rw[if_pos h0]) h2
 ·exact h.elim
theorem Yi {v:AV} {K:AV->Prop} (h:fF v K):v ≠ .any/\KB (C9 σ v)=some (CZ σ v)/\K v:=by
 cases v<;>first|exact (h:False).elim|exact ⟨(by intro e;cases e),rfl,h⟩
theorem Dc (hr:RX σ tm M st) : ∀ {l:List B8} {K:List AV->Prop},oO tm l K -> ∃ cs,l.mapM (λ x=>KB (st.ev x))=some (cs.map (CZ σ))/\K cs
 | [],K,h=>⟨[],rfl,h⟩
 | x::r,K,h=>by
  obtain ⟨h0,hc,h⟩:=Yi (σ:=σ) (show fF (ex tm x) λ v=>oO tm r λ cs=>K (v::cs) from h);obtain ⟨cs,h1,h2⟩:=Dc hr h;refine ⟨ex tm x::cs,?_,h2⟩;rw[List.mapM_cons,h1,hr.ev rfl h0,hc];rfl
theorem Pv {p:Bool} {f:Nat} {xs:List B8} (hr:RX σ tm M st) (h:XE L tm M b9 K (.jc p f xs)):DL L tm b9 K (.jc p f xs) st:=by
 simp only[XE]at h;obtain ⟨cs,h1,h2⟩:=Dc hr h;exact DL.val hr _ (λ C=>by simp only[c7,h1,Option.map_some,pQ];rfl) h2
theorem wR (hr:RX σ tm M st) {v:AV} {K:List (List AV)->Prop} (h:bV M v K):v ≠ .any /\ ∃ es,G5 st.own (C9 σ v)=some es/\K es:=by
 cases v with
 | sl q es=>exact ⟨(by intro e;cases e),_,rfl,h⟩
 | nil=>exact ⟨(by intro e;cases e),_,rfl,h⟩
 | z9 v =>
  cases v with
  | bool b=>exact ⟨(by intro e;cases e),_,rfl,h⟩
  | _=>exact (h:False).elim
 | row key t z off len =>
  simp only[bV]at h;obtain ⟨z',es,g,h⟩:=AkB hr h;cases hz:Nat.beq z z'<;>simp only[hz,cond_true,cond_false]at h;obtain rfl:=DI.1 hz;refine ⟨(by intro e;cases e),_,?_,h.2⟩;simp only[FN,G5,BT.get,g];rw[if_pos ⟨h.1,trivial⟩]
 | _=>exact (h:False).elim
theorem oP (hr:RX σ tm M st) {o:Option B8} {K:Option Int->Prop} (h:iO tm o K):(o=none/\K none) \/ ∃ x k n,o=some x/\st.ev x = .int k n/\K (some n):=by
 unfold iO at h;split at h
 ·exact Or.inl ⟨rfl,h⟩
 ·split at h
  ·rename_i e
   exact Or.inr ⟨_,_,_,rfl,hr.ev e (by intro e;cases e),h⟩
  ·exact h.elim
theorem Nz {z:Nat} {x:B8} {lo hi:Option B8} (hr:RX σ tm M st) (h:XE L tm M b9 K (.ay z x lo hi)):DL L tm b9 K (.ay z x lo hi) st:=by
 simp only[XE]at h;have go : ∀ (a b:Option Int),(match ex tm x with
   | .sl l es=>EF z es a b λ es=>K (.sl l es) M
   | .row key t z' off len=>bif Nat.beq z' z then DR a b len λ a h=>K (.row key t z (off+a) (h-a)) M else False
   | .nil=>(match a,b with
    | none,none=>K .nil M
    | some a,none=>B1 (a=0) (K .nil M)
    | none,some h=>B1 (h=0) (K .nil M)
    | some a,some h=>B1 (a=0/\h=0) (K .nil M))
   | _=>False)->(lo=none/\a=none \/ ∃ y k n,lo=some y/\st.ev y = .int k n/\a=some n)->(hi=none/\b=none \/ ∃ y k n,hi=some y/\st.ev y = .int k n/\b=some n)->DL L tm b9 K (.ay z x lo hi) st:=by
  intro a b h ha hb;split at h
  ·rename_i q es e
   obtain ⟨g1,a',h',g2,g3,g4,h⟩:=h;refine DL.val hr _ (λ C => ?_) h;rcases ha with ⟨rfl,rfl⟩|⟨y,k,n,rfl,e1,rfl⟩<;>rcases hb with ⟨rfl,rfl⟩|⟨y',k',n',rfl,e2,rfl⟩<;>try simp only at g2 g3<;>simp only[c7,hr.ev e (by intro e;cases e),JT, *]<;>simp_all
  ·rename_i key t z' off len e
   cases hz:Nat.beq z' z<;>simp only[hz,cond_true,cond_false]at h;obtain rfl:=DI.1 hz;obtain ⟨a',h',g2,g3,g4,h⟩:=h;refine DL.val hr _ (λ C => ?_) h;rcases ha with ⟨rfl,rfl⟩|⟨y,k,n,rfl,e1,rfl⟩<;>rcases hb with ⟨rfl,rfl⟩|⟨y',k',n',rfl,e2,rfl⟩<;>try simp only at g2 g3<;>simp only[c7,hr.ev e (by intro e;cases e),FN, *]<;>simp_all
  ·rename_i e
   rcases ha with ⟨rfl,rfl⟩|⟨y,k,n,rfl,e1,rfl⟩<;>rcases hb with ⟨rfl,rfl⟩|⟨y',k',n',rfl,e2,rfl⟩<;>simp only at h
   ·exact DL.val hr .nil (λ C=>by simp only[c7,hr.ev e (by intro e;cases e),H3]) h
   ·exact DL.val hr .nil (λ C=>by simp only[c7,hr.ev e (by intro e;cases e),H3,e2,h.1,if_true]) h.2
   ·exact DL.val hr .nil (λ C=>by simp only[c7,hr.ev e (by intro e;cases e),H3,e1,h.1,if_true]) h.2
   ·exact DL.val hr .nil (λ C=>by simp only[c7,hr.ev e (by intro e;cases e),H3,e1,e2,h.1.1,h.1.2,if_true]) h.2
  ·exact h.elim
 rcases oP hr h with ⟨h1,h⟩|⟨y,k,n,h1,h2,h⟩
 ·rcases oP hr h with ⟨g1,h⟩|⟨y,k,n,g1,g2,h⟩
  ·exact go _ _ h (Or.inl ⟨h1,rfl⟩) (Or.inl ⟨g1,rfl⟩)
  ·exact go _ _ h (Or.inl ⟨h1,rfl⟩) (Or.inr ⟨_,_,_,g1,g2,rfl⟩)
 ·rcases oP hr h with ⟨g1,h⟩|⟨y',k',n',g1,g2,h⟩
  ·exact go _ _ h (Or.inr ⟨_,_,_,h1,h2,rfl⟩) (Or.inl ⟨g1,rfl⟩)
  ·exact go _ _ h (Or.inr ⟨_,_,_,h1,h2,rfl⟩) (Or.inr ⟨_,_,_,g1,g2,rfl⟩)
theorem iX {s key:Nat} : ∀ {M:Mem},JQ s M=false->JQ s (n6 key M)=false
 | [],_=>rfl
 | (i,s0,c0)::r,h=>by
  simp only[JQ]at h;cases q0:Nat.beq s i<;>simp only[q0,cond_true,cond_false]at h
  ·cases q1:K9 s c0<;>simp only[q1,cond_true,cond_false]at h
   ·simp only[n6]
    cases Nat.beq key i
    ·simp only[cond_false,JQ,q0,q1,iX h]
    ·simp only[cond_true,iX h]
   ·cases h
  ·cases h
theorem Lf {s z bytes:Nat} {x y:B8} (hr:RX σ tm M st) (h:bV M (ex tm y) λ ys=>match ex tm x with
   | .row key 0 z' off len=>bif Nat.beq off 0 then bif Nat.beq z' z then (match c5 M key with
    | some (s',.rw w9 es)=>bif Nat.beq w9 z then fM (n6 key M) λ M'=>(DT es len ys z bytes λ es' n=>I5 s tm M λ k=>K (.row k 0 z 0 n) ((k,s',.rw z es')::M')) else False
    | _=>False) else False else False
   | .row key (i+1) z' off len=>bif Nat.beq off 0 then bif Nat.beq z' z then (match c5 M key with
    | some (sk,.mx rows)=>fM (n6 key M) λ M'=>DB rows i λ w9 es=>bif Nat.beq w9 z then (DT es len ys z bytes λ es' n => ∀ s' v,I5 s tm M λ k=>K (.row k 0 z 0 n) ((k,s',.rw z es')::(key,sk,.hx i v (rows.set i none))::M')) else False
    | _=>False) else False else False
   | .nil=>bif HM s then EN ys z bytes λ es n=>I5 s tm M λ k=>K (.row k 0 z 0 n) ((k,s,.rw z es)::M) else False
   | _=>False):DL L tm b9 K (.app s z bytes x y) st:=by
 obtain ⟨h0,ys,hy,h⟩:=wR hr h;have hy':G5 st.own (st.ev y)=some ys:=by rw[hr.ev rfl h0];exact hy
 split at h
 ·rename_i key z' off len e
  cases ho:Nat.beq off 0<;>simp only[ho,cond_true,cond_false]at h;cases hz:Nat.beq z' z<;>simp only[hz,cond_true,cond_false]at h;obtain rfl:=DI.1 ho;obtain rfl:=DI.1 hz;split at h
  ·rename_i s' w9 es hm
   cases hz2:Nat.beq w9 z'<;>simp only[hz2,cond_true,cond_false]at h;obtain rfl:=DI.1 hz2;rw[N3]at h;obtain ⟨g1,g2,g3,g4,h⟩:=h;obtain ⟨k,h1,h2,h3⟩:=KH h;have hs:=hr.sat.site _ _ _ hm;have s9:=hr.sat.blk _ _ _ (GK hm);have hn:=(hr.kill hm).bq (s:=k) (q:=s') (iX h1) h2 (.rw w9 (es.take len++ys)) trivial rfl (λ_=>by have:=hr.sat.low _ _ _ (GK hm) rfl;rwa [hs]at this);have qe:(st.own.put s' ((st.own s').n7 (σ key 0).2 none)).e5 s'=st.own.e5 s':=by simp [BT.e5,BT.e7,D9.n7]
   simp only[BT.e7,BT.fj,qe]at hn;refine ⟨.af (.row s' (st.own.e5 s') w9 0 (len+ys.length)) (st.own.put s' (((st.own s').n7 (σ key 0).2 none).new ⟨w9,es.take len++ys⟩)),_,_,_,λ C => ?_,h3,?_,hn⟩
   ·rw[hs]at s9
    simp only[c7,hy',hr.ev e (by intro e;cases e),FN,BT.get,hs,s9,CQ.blk];rw[if_pos g2,if_pos ⟨trivial,trivial,g1,g3,g4⟩]
   ·simp only[ED.res,FN,DM]
  ·exact h.elim
 ·rename_i key i z' off len e
  cases ho:Nat.beq off 0<;>simp only[ho,cond_true,cond_false]at h;cases hz:Nat.beq z' z<;>simp only[hz,cond_true,cond_false]at h;obtain rfl:=DI.1 ho;obtain rfl:=DI.1 hz;split at h
  ·rename_i sk rows hm
   rw[N3]at h;obtain ⟨w9,es,g0,h⟩:=h;cases hz2:Nat.beq w9 z'<;>simp only[hz2,cond_true,cond_false]at h;obtain rfl:=DI.1 hz2;obtain ⟨g1,g2,g3,g4,h⟩:=h;have h:=h (σ key (i+1)).1 (.row (σ key (i+1)).1 (σ key (i+1)).2 w9 0 es.length);obtain ⟨k,h1,h2,h3⟩:=KH h;have s9:=hr.sat.blk key (i+1) (.rw w9 es) (by simp [b7,hm,g0]);have hn:=hr.yv (s:=k) (es':=es.take len++ys) hm g0 h1 h2;refine ⟨.af (.row (σ key (i+1)).1 (st.own.e5 (σ key (i+1)).1) w9 0 (len+ys.length)) (st.own.put (σ key (i+1)).1 (((st.own (σ key (i+1)).1).n7 (σ key (i+1)).2 none).new ⟨w9,es.take len++ys⟩)),_,_,_,λ C => ?_,h3,?_,hn⟩
   ·simp only[c7,hy',hr.ev e (by intro e;cases e),FN,BT.get,s9,CQ.blk]
    rw[if_pos g2,if_pos ⟨trivial,trivial,g1,g3,g4⟩]
   ·simp only[ED.res,FN,DM]
  ·exact h.elim
 ·rename_i e
  cases br:HM s<;>simp only[br,cond_true,cond_false]at h;obtain ⟨g2,g3,g4,h⟩:=h;obtain ⟨k,h1,h2,h3⟩:=KH h;refine ⟨.af (.row s (st.own.e5 s) z 0 ys.length) (st.own.put s ((st.own s).new ⟨z,ys⟩)),_,_,_,λ C => ?_,h3,?_,hr.bq h1 h2 (.rw z ys) trivial rfl (λ_=>br)⟩
  ·simp only[c7,hy',hr.ev e (by intro e;cases e),H3]
   rw[if_pos g2,if_pos ⟨g3,g4⟩]
  ·simp only[ED.res,FN,DM]
 ·exact h.elim
theorem Lg {s z bytes:Nat} {x y:B8} (hr:RX σ tm M st) (h:XE L tm M b9 K (.al s z bytes x y)):DL L tm b9 K (.al s z bytes x y) st:=by
 simp only[XE]at h;split at h
 ·rename_i l ys ey
  split at h
  ·rename_i key z' off len e
   cases ho:Nat.beq off 0<;>simp only[ho,cond_true,cond_false]at h;cases hz:Nat.beq z' z<;>simp only[hz,cond_true,cond_false]at h;obtain rfl:=DI.1 ho;obtain rfl:=DI.1 hz;split at h
   ·rename_i s' w9 es hm
    cases hs0:Nat.beq s' s<;>simp only[hs0,cond_true,cond_false]at h;cases hz2:Nat.beq w9 z'<;>simp only[hz2,cond_true,cond_false]at h;obtain rfl:=DI.1 hs0;obtain rfl:=DI.1 hz2;rw[N3]at h;obtain ⟨g1,g2,g3,g4,h⟩:=h;obtain ⟨k,h1,h2,h3⟩:=KH h;have hs:=hr.sat.site _ _ _ hm;have s9:=hr.sat.blk _ _ _ (GK hm);have hn:=(hr.kill hm).bq (s:=k) (q:=s') (iX h1) h2 (.rw w9 (es.take len++ys)) trivial rfl (λ_=>by have:=hr.sat.low _ _ _ (GK hm) rfl;rwa [hs]at this);have qe:(st.own.put s' ((st.own s').n7 (σ key 0).2 none)).e5 s'=st.own.e5 s':=by simp [BT.e5,BT.e7,D9.n7]
    simp only[BT.e7,BT.fj,qe]at hn;refine ⟨.km s' (((st.own s').n7 (σ key 0).2 none).new ⟨w9,es.take len++ys⟩) (.row s' (st.own.e5 s') w9 0 (len+ys.length)),_,_,_,λ C => ?_,h3,?_,hn⟩
    ·rw[hs]at s9
     simp only[c7,hr.ev ey (by intro e;cases e),JT,hr.ev e (by intro e;cases e),FN,BT.get,hs,s9,CQ.blk];rw[if_pos ⟨trivial,g2,trivial,trivial,g1,g3,g4⟩]
    ·simp only[ED.res,FN,DM]
   ·exact h.elim
  ·exact h.elim
 ·exact h.elim
theorem On {v:AV} {ky k2 z n:Nat} (h:W6 M v=some (ky,some (k2,z,n))):v = .row ky 0 1 0 1 /\ ∃ sy,c5 M ky=some (sy,.bs 1 [[.row k2 0 z 0 n]]):=by
 unfold W6 at h;split at h
 ·split at h
  ·rename_i hm
   simp only[Option.some.injEq,Prod.mk.injEq]at h;obtain ⟨rfl,rfl,rfl,rfl⟩:=h;exact ⟨rfl,_,hm⟩
  ·simp at h
  ·cases h
 ·cases h
theorem Om {v:AV} {ky:Nat} (h:W6 M v=some (ky,none)):v = .row ky 0 1 0 1 /\ ∃ sy,c5 M ky=some (sy,.rw 1 [[.nil]]):=by
 unfold W6 at h;split at h
 ·split at h
  ·simp at h
  ·rename_i hm
   simp only[Option.some.injEq,Prod.mk.injEq,and_true]at h;subst h;exact ⟨rfl,_,hm⟩
  ·cases h
 ·cases h
theorem Le {s z bytes:Nat} {x y:B8} (hr:RX σ tm M st) (h:XE L tm M b9 K (.app s z bytes x y)):DL L tm b9 K (.app s z bytes x y) st:=by
 simp only[XE]at h;split at h
 ·rename_i ky k2 z2 n2 zs
  obtain ⟨gl,sy,np⟩:=On zs;have ft:=hr.sat.site _ _ _ np;have iw:=hr.sat.blk _ _ _ (GK np);rw[ft]at iw
  have wv:G5 st.own (st.ev y)=some [[.row (σ k2 0).1 (σ k2 0).2 z2 0 n2]]:=by
   rw[hr.ev gl (by intro e;cases e)];simp only[FN,G5,BT.get,ft,iw,CQ.blk,CZ,List.map_cons,List.map_nil,List.length_cons,List.length_nil];simp
  split at h
  ·rename_i key z' off len e
   cases ho:Nat.beq off 0<;>simp only[ho,cond_true,cond_false]at h;cases hz:Nat.beq z' 1<;>simp only[hz,cond_true,cond_false]at h;cases hz1:Nat.beq z 1<;>simp only[hz1,cond_true,cond_false]at h;cases hk2:Nat.beq key k2<;>simp only[hk2,cond_true,cond_false]at h;cases Aj:Nat.beq key ky<;>simp only[Aj,cond_true,cond_false]at h;cases hk3:Nat.beq k2 ky<;>simp only[hk3,cond_true,cond_false]at h;obtain rfl:=DI.1 ho;obtain rfl:=DI.1 hz;obtain rfl:=DI.1 hz1;split at h
   ·rename_i s2 z3 es hm2
    cases wx:Nat.beq z2 z3<;>simp only[wx,cond_true,cond_false]at h;obtain rfl:=DI.1 wx;split at h
    ·rename_i s' rows hm
     rw[N3]at h;obtain ⟨rfl,rfl,g3,g4,h⟩:=h;obtain ⟨k,h1,h2,h3⟩:=KH h;have hs:=hr.sat.site _ _ _ hm;have s9:=hr.sat.blk _ _ _ (GK hm);rw[hs]at s9;refine ⟨.af (.row s' (st.own.e5 s') 1 0 (rows.length+1)) (st.own.put s' (((st.own s').n7 (σ key 0).2 none).new ⟨1,DZ σ key 0 rows++[[.row (σ k2 0).1 (σ k2 0).2 z2 0 es.length]]⟩)),_,_,_,λ C => ?_,h3,?_,hr.yw (ky:=ky) hm hm2 (IE.1 hk2) h1 h2⟩
     ·simp only[c7,wv,hr.ev e (by intro e;cases e),FN,BT.get,hs,s9,CQ.blk]
      rw[if_pos (by simp),if_pos ⟨trivial,trivial,by rw[H1];exact Nat.le_refl _,by simpa using g3,by simpa using g4⟩];rw[List.take_of_length_le (by rw[H1];exact Nat.le_refl _)];rfl
     ·simp only[ED.res,FN,DM]
    ·exact h.elim
   ·exact h.elim
  ·rename_i e
   cases br:HM s<;>simp only[br,cond_true,cond_false]at h;cases hz1:Nat.beq z 1<;>simp only[hz1,cond_true,cond_false]at h;obtain rfl:=DI.1 hz1;split at h
   ·rename_i s2 z3 es hm2
    cases wx:Nat.beq z2 z3<;>simp only[wx,cond_true,cond_false]at h;obtain rfl:=DI.1 wx;rw[N3]at h;obtain ⟨⟨rfl,g3⟩,h⟩:=h;obtain ⟨k,h1,h2,h3⟩:=KH h;obtain ⟨σ',q1,q2⟩:=hr.Ca (q:=s) hm2 (λ e=>(YE h1 _ _ _ hm2).1 e.symm) h1 h2 br;refine ⟨.af (.row s (st.own.e5 s) 1 0 1) (st.own.put s ((st.own s).new ⟨1,[[.row (σ k2 0).1 (σ k2 0).2 z2 0 es.length]]⟩)),σ',_,_,λ C => ?_,h3,?_,q2⟩
    ·simp only[c7,wv,hr.ev e (by intro e;cases e),H3]
     rw[if_pos (by simp),if_pos ⟨by simpa [F3] using g3,by simp⟩];rfl
    ·simp only[ED.res,FN,q1]
   ·exact h.elim
  ·exact h.elim
 ·rename_i ky zs
  obtain ⟨gl,sy,np⟩:=Om zs;have ft:=hr.sat.site _ _ _ np;have iw:=hr.sat.blk _ _ _ (GK np);rw[ft]at iw
  have wv:G5 st.own (st.ev y)=some [[.nil]]:=by
   rw[hr.ev gl (by intro e;cases e)];simp only[FN,G5,BT.get,ft,iw,CQ.blk,List.length_cons,List.length_nil];simp
  split at h
  ·rename_i key z' off len e
   cases ho:Nat.beq off 0<;>simp only[ho,cond_true,cond_false]at h;cases hz:Nat.beq z' 1<;>simp only[hz,cond_true,cond_false]at h;cases hz1:Nat.beq z 1<;>simp only[hz1,cond_true,cond_false]at h;cases Aj:Nat.beq key ky<;>simp only[Aj,cond_true,cond_false]at h;obtain rfl:=DI.1 ho;obtain rfl:=DI.1 hz;obtain rfl:=DI.1 hz1;split at h
   ·rename_i s' rows hm
    rw[N3]at h;obtain ⟨rfl,g3,g4,h⟩:=h;obtain ⟨k,h1,h2,h3⟩:=KH h;have hs:=hr.sat.site _ _ _ hm;have s9:=hr.sat.blk _ _ _ (GK hm);rw[hs]at s9;refine ⟨.af (.row s' (st.own.e5 s') 1 0 (rows.length+1)) (st.own.put s' (((st.own s').n7 (σ key 0).2 none).new ⟨1,DZ σ key 0 rows++[[.nil]]⟩)),_,_,_,λ C => ?_,h3,?_,hr.yx hm h1 h2⟩
    ·simp only[c7,wv,hr.ev e (by intro e;cases e),FN,BT.get,hs,s9,CQ.blk]
     rw[if_pos (by simp),if_pos ⟨trivial,trivial,by rw[H1];exact Nat.le_refl _,by simpa using g3,by simpa using g4⟩];rw[List.take_of_length_le (by rw[H1];exact Nat.le_refl _)];rfl
    ·simp only[ED.res,FN,DM]
   ·exact h.elim
  ·rename_i e
   cases br:HM s<;>simp only[br,cond_true,cond_false]at h;cases hz1:Nat.beq z 1<;>simp only[hz1,cond_true,cond_false]at h;obtain rfl:=DI.1 hz1;obtain ⟨g3,h⟩:=h;obtain ⟨k,h1,h2,h3⟩:=KH h;have hfl:CQ.flat (.mx [none]):=by
    intro i x hx;cases i with
    | zero=>simp at hx
    | succ i=>simp at hx
   refine ⟨.af (.row s (st.own.e5 s) 1 0 1) (st.own.put s ((st.own s).new ⟨1,[[.nil]]⟩)),_,_,_,λ C => ?_,h3,?_,hr.bq h1 h2 (.mx [none]) hfl rfl (λ_=>br)⟩
   ·simp only[c7,wv,hr.ev e (by intro e;cases e),H3]
    rw[if_pos (by simp),if_pos ⟨by simpa [F3] using g3,by simp⟩];rfl
   ·simp only[ED.res,FN,DM]
  ·exact h.elim
 ·exact Lf hr h
theorem Pj {z:Nat} {x y:B8} (hr:RX σ tm M st) (h:XE L tm M b9 K (.iq z x y)):DL L tm b9 K (.iq z x y) st:=by
 simp only[XE]at h;obtain ⟨h0,ys,hy,h⟩:=wR hr h;have hy':G5 st.own (st.ev y)=some ys:=by rw[hr.ev rfl h0];exact hy
 split at h
 ·rename_i key z' off len e
  cases hz:Nat.beq z' z<;>simp only[hz,cond_true,cond_false]at h;obtain rfl:=DI.1 hz;split at h
  ·rename_i s' w9 es hm
   cases hz2:Nat.beq w9 z'<;>simp only[hz2,cond_true,cond_false]at h;obtain rfl:=DI.1 hz2;obtain ⟨g1,g2,h⟩:=h;have hs:=hr.sat.site _ _ _ hm;have s9:=hr.sat.blk _ _ _ (GK hm);refine ⟨.af (.int .i64 (min ys.length len:Nat)) (st.own.put s' ((st.own s').n7 (σ key 0).2 (some ⟨w9,es.take off++ys.take len++es.drop (off+min ys.length len)⟩))),_,_,_,λ C => ?_,h,rfl,hr.yp hm trivial (.rw w9 _) trivial (λ_=>rfl)⟩;rw[hs]at s9;simp only[c7,hy',hr.ev e (by intro e;cases e),FN,BT.get,hs,s9,CQ.blk];rw[if_pos ⟨trivial,trivial,g1,g2⟩]
  ·exact h.elim
 ·exact h.elim
end
end Go.Eng
