/-
  The walk by computation is sound.
-/
import Derived.Test.YthgjfcjecnmflaaGreatB5
set_option linter.unusedSimpArgs false
set_option linter.unusedVariables false
set_option linter.unnecessarySimpa false
namespace Go.e9
theorem BJ {a b:Nat}:Nat.beq a b=true↔a=b:=⟨Nat.eq_of_beq_eq_true,λ h=>by subst h;simp⟩
theorem FM {a b:Nat}:Nat.beq a b=false↔a≠b:=by
 constructor
 ·exact Nat.ne_of_beq_eq_false
 ·intro h
  cases e:Nat.beq a b
  ·rfl
  ·exact absurd (Nat.eq_of_beq_eq_true e) h
theorem JL (j:Nat) : ∀ tm:Tm,tg tm j=g6 tm j
 | []=>rfl
 | (i,v)::r=>by
  simp only[tg,VI,JL j r];cases e:Nat.beq j i
  ·rw[if_neg (FM.1 e)];rfl
  ·rw[if_pos (BJ.1 e)];rfl
theorem G8 : ∀ (l:List AV) (K:List AV->Prop),fL l K=K l
 | [],_=>rfl
 | v::r,K=>by rw[fL,G8 r]
theorem T9 : ∀ (l:Tm) (K:Tm->Prop),fT l K=K l
 | [],_=>rfl
 | (i,v)::r,K=>by rw[fT,T9 r]
theorem KB : ∀ (l:Mem) (K:Mem->Prop),fM l K=K l
 | [],_=>rfl
 | (k,s,c)::r,K=>by rw[fM,KB r]
theorem Nv (n:Nat) (K:Nat->Prop):fN n K=K n:=by cases n<;>rfl
theorem Y7 (m i:Nat):bit m i=m.testBit i:=by
 have h:Nat.land (Nat.shiftRight m i) 1=(m >>> i)%2:=Nat.and_one_is_mod (m >>> i);have ht:m.testBit i=decide ((m >>> i)%2=1):=by
  rw[Nat.testBit,Nat.and_comm,Nat.and_one_is_mod];rcases Nat.mod_two_eq_zero_or_one (m >>> i) with e|e<;>simp [e]
 unfold bit;rw[h,ht];rcases Nat.mod_two_eq_zero_or_one (m >>> i) with e|e<;>rw[e]<;>rfl
theorem fS (m i j:Nat):bit (Nat.lor m (Nat.shiftLeft 1 i)) j=(bit m j||decide (j=i)):=by
 rw[Y7,Y7];show (m ||| (1 <<< i)).testBit j=_;rw[Nat.testBit_or,Nat.testBit_shiftLeft];congr 1;by_cases h:j=i
 ·subst h;simp
 ·by_cases h2:j≥i
  ·obtain ⟨d,rfl⟩ : ∃ d,j=i+d+1:=⟨j-i-1,by omega⟩
   rw[show i+d+1-i=d+1 by omega,Nat.testBit_succ];simp [h]
  ·simp [h2,h]
theorem fR : ∀ (ts:List Nat) (m j:Nat),bit (mask m ts) j=(bit m j||ts.contains j)
 | [],m,j=>by simp [mask]
 | t::ts,m,j=>by
  rw[mask,fR ts,fS,List.contains_cons,Bool.or_assoc];congr 2
theorem Y8 (j:Nat):bit 0 j=false:=by rw[Y7];simp
theorem VG (j:Nat) : ∀ (tm:Tm) (m:Nat),tg (ry m tm) j=bif bit m j then .any else tg tm j
 | [],m=>by cases bit m j<;>rfl
 | (i,v)::r,m=>by
  simp only[ry];cases hb:bit m i
  ·simp only[cond_false,tg,VG j r,fS]
   cases hj:Nat.beq j i
   ·have:decide (j=i)=false:=by simpa using FM.1 hj
    simp only[cond_false,this,Bool.or_false]
   ·obtain rfl:=BJ.1 hj
    simp only[cond_true,hb,cond_false]
  ·simp only[cond_true,tg,VG j r]
   cases hj:Nat.beq j i
   ·rfl
   ·obtain rfl:=BJ.1 hj
    simp only[hb,cond_true]
theorem W4 {v:AV} {K:AV->Prop} (h:fV v K):v ≠ .any/\K v:=by
 cases v<;>simp only[fV,G8]at h<;>first|exact h.elim|exact ⟨(by intro e;cases e),h⟩
theorem W3 {v:AV} {K:List AV->Prop} (h:fC v K):v ≠ .any /\ ∃ cs,cellsOf v=some cs/\K cs:=by
 cases v<;>simp only[fC,fV,G8]at h<;>first|exact h.elim|exact ⟨(by intro e;cases e),_,rfl,h⟩
theorem PG (b:Bool) (K:Bool->Prop):fB b K=K b:=by cases b<;>rfl
theorem rL {k:Nat} {tm:Tm} {M:Mem} (h:used k tm M=false):GQ k M=false/\HP k tm=false:=by
 unfold used at h;cases h1:GQ k M<;>simp only[h1,cond_true,cond_false]at h
 ·exact ⟨rfl,h⟩
 ·cases h
theorem pC {tm:Tm} {M:Mem} {K:Nat->Prop} : ∀ {l:List Nat},XV tm M l K -> ∃ k,GQ k M=false/\HP k tm=false/\K k
 | [],h=>h.elim
 | k::r,h=>by
  simp only[XV]at h;cases h0:used k tm M<;>simp only[h0,cond_true,cond_false]at h
  ·exact ⟨k,(rL h0).1,(rL h0).2,h⟩
  ·exact pC h
theorem GU {s:Nat} {tm:Tm} {M:Mem} {K:Nat->Prop} (h:FS s tm M K) : ∃ k,GQ k M=false/\HP k tm=false/\K k:=pC h
section
variable {σ:FU}
def C8 (σ:FU) (k:Nat) (f:Nat->Nat × Nat):FU:=λ j t=>if j=k then f t else σ j t
theorem CW {k j:Nat} (f:Nat->Nat × Nat) (h:j≠k):C8 σ k f j=σ j:=by funext t;simp [C8,h]
theorem BV (k:Nat) (f:Nat->Nat × Nat):C8 σ k f k=f:=by funext t;simp [C8]
theorem dJ {k:Nat} {p:Nat->Nat × Nat} {v:AV} (h:M4 k v=false):A8 (C8 σ k p) v=A8 σ v:=by
 cases v with
 | row j t z o n=>simp only[M4]at h;simp only[A8,CW p (FM.1 h)]
 | ptr j t a b=>simp only[M4]at h;simp only[A8,CW p (FM.1 h)]
 | _=>rfl
theorem SW {k:Nat} {p:Nat->Nat × Nat} : ∀ {cs:List AV},HO k cs=false->cs.map (A8 (C8 σ k p))=cs.map (A8 σ)
 | [],_=>rfl
 | c::r,h=>by
  simp only[HO]at h;cases h1:M4 k c<;>simp only[h1,cond_true,cond_false]at h
  ·rw[List.map_cons,List.map_cons,dJ h1,SW h]
  ·cases h
theorem dH {k:Nat} {p:Nat->Nat × Nat} : ∀ {es:List (List AV)},IP k es=false->(es.map λ cs=>cs.map (A8 (C8 σ k p)))=es.map λ cs=>cs.map (A8 σ)
 | [],_=>rfl
 | c::r,h=>by
  simp only[IP]at h;cases h1:HO k c<;>simp only[h1,cond_true,cond_false]at h
  ·rw[List.map_cons,List.map_cons,SW h1,dH h]
  ·cases h
theorem VC {k:Nat} {p:Nat->Nat × Nat} {v:AV} (h:OY k v=false):BT (C8 σ k p) v=BT σ v:=by
 cases v with
 | agg cs=>simp only[OY]at h;simp only[BT,SW h]
 | fn p f g cs=>simp only[OY]at h;simp only[BT,SW h]
 | row a b c d e=>exact dJ (v := .row a b c d e) h
 | ptr a b c d=>exact dJ (v := .ptr a b c d) h
 | _=>rfl
theorem qP {k:Nat} {p:Nat->Nat × Nat} : ∀ {cs:List AV},ST k cs=false->cs.map (BT (C8 σ k p))=cs.map (BT σ)
 | [],_=>rfl
 | c::r,h=>by
  simp only[ST]at h;cases h1:OY k c<;>simp only[h1,cond_true,cond_false]at h
  ·rw[List.map_cons,List.map_cons,VC h1,qP h]
  ·cases h
theorem YD {k:Nat} {p:Nat->Nat × Nat} {v:AV} (h:M5 k v=false):BC (C8 σ k p) v=BC σ v:=by
 cases v with
 | j4 cs=>simp only[M5]at h;simp only[BC,qP h]
 | agg cs=>exact VC (v := .agg cs) h
 | fn p f g cs=>exact VC (v := .fn p f g cs) h
 | row a b c d e=>exact VC (v := .row a b c d e) h
 | ptr a b c d=>exact VC (v := .ptr a b c d) h
 | _=>rfl
theorem SU {k:Nat} : ∀ {tm:Tm},HP k tm=false -> ∀ j,M5 k (tg tm j)=false
 | [],_,_=>rfl
 | (i,v)::r,h,j=>by
  simp only[HP]at h;cases h1:M5 k v<;>simp only[h1,cond_true,cond_false]at h
  ·simp only[tg]
   cases Nat.beq j i
   ·exact SU h j
   ·exact h1
  ·cases h
theorem N6 {k:Nat} : ∀ {M:Mem},GQ k M=false -> ∀ j s c,c8 M j=some (s,c)->j≠k/\GZ k c=false
 | [],_,_,_,_,e=>by cases e
 | (i,s0,c0)::r,h,j,s,c,e=>by
  simp only[GQ]at h;cases h0:Nat.beq k i<;>simp only[h0,cond_true,cond_false]at h
  ·cases h1:GZ k c0<;>simp only[h1,cond_true,cond_false]at h
   ·simp only[c8]at e
    cases h2:Nat.beq j i<;>simp only[h2,cond_true,cond_false]at e
    ·exact N6 h j s c e
    ·simp only[Option.some.injEq,Prod.mk.injEq]at e
     obtain ⟨_,rfl⟩:=e;exact ⟨λ e=>FM.1 h0 (e.symm.trans (BJ.1 h2)),h1⟩
   ·cases h
  ·cases h
theorem PL {σ σ':FU} {k:Nat} : ∀ (rows:List (Option (Nat × List (List AV)))) (i:Nat),(∀ j,i<=j->σ k (j+1)=σ' k (j+1))->B4 σ k i rows=B4 σ' k i rows
 | [],i,h=>rfl
 | none::r,i,h=>by rw[B4,B4,PL r (i+1) λ j hj=>h j (by omega)]
 | some (z,es)::r,i,h=>by rw[B4,B4,PL r (i+1) λ j hj=>h j (by omega),h i (by omega)]
theorem FI {k:Nat} : ∀ (rows:List (Option (Nat × List (List AV)))) (i j:Nat),(B4 σ k i rows)[j]? = (rows[j]?).map λ r=>match r with|none=>[.nil]|some (z,es)=>[.row (σ k (i+j+1)).1 (σ k (i+j+1)).2 z 0 es.length]
 | [],i,j=>by simp [B4]
 | none::r,i,0=>by simp [B4]
 | none::r,i,j+1=>by simp only[B4,List.getElem?_cons_succ,FI r (i+1) j];rw[show i+1+j=i+(j+1) by omega]
 | some (z,es)::r,i,0=>by simp [B4]
 | some (z,es)::r,i,j+1=>by simp only[B4,List.getElem?_cons_succ,FI r (i+1) j];rw[show i+1+j=i+(j+1) by omega]
theorem E4 {k:Nat} : ∀ (rows:List (Option (Nat × List (List AV)))) (i:Nat),(B4 σ k i rows).length=rows.length
 | [],i=>rfl
 | none::r,i=>by simp [B4,E4 r]
 | some (z,es)::r,i=>by simp [B4,E4 r]
theorem V8 {k j:Nat} {f:Nat->Nat × Nat} {c:A7} (h:GZ k c=false) (hj:j≠k):c.e6 (C8 σ k f) j=c.e6 σ j:=by
 cases c with
 | bx cs=>simp only[GZ]at h;simp only[A7.e6,SW h]
 | rw z es=>rfl
 | bs z es=>simp only[GZ]at h;simp only[A7.e6,dH h]
 | mx rows=>simp only[A7.e6];rw[PL rows 0 λ i _=>by rw[CW f hj]]
 | hx a v rows=>simp only[A7.e6];rw[PL rows 0 λ i _=>by rw[CW f hj]]
 | vw w rows=>simp only[A7.e6];rw[PL rows 0 λ i _=>by rw[CW f hj]]
theorem yQ {v:AV} (h:pj v=true):A8 σ v=v:=by cases v<;>first|rfl|cases h
theorem II : ∀ {cs:List AV},D7 cs=true->cs.map (A8 σ)=cs
 | [],_=>rfl
 | c::r,h=>by
  simp only[D7]at h;cases h1:pj c<;>simp only[h1,cond_true,cond_false]at h
  ·cases h
  ·rw[List.map_cons,yQ h1,II h]
theorem yP {k:Nat} {v:AV} (h:pj v=true):M4 k v=false:=by cases v<;>first|rfl|cases h
theorem ZJ {k:Nat} : ∀ {cs:List AV},D7 cs=true->HO k cs=false
 | [],_=>rfl
 | c::r,h=>by
  simp only[D7]at h;cases h1:pj c<;>simp only[h1,cond_true,cond_false]at h
  ·cases h
  ·simp only[HO,yP h1,ZJ h,cond_false]
theorem yJ (v:AV):cv v = .any\/(cv v=v/\BC σ v=v):=by
 cases v with
 | agg cs =>
  simp only[cv];cases h:D7 cs
  ·exact Or.inl rfl
  ·exact Or.inr ⟨rfl,by simp only[BC,BT,II h]⟩
 | j4 vs=>cases vs with
  | nil=>exact Or.inr ⟨rfl,rfl⟩
  | cons=>exact Or.inl rfl
 | fn p f g cs=>cases cs with
  | nil=>exact Or.inr ⟨rfl,rfl⟩
  | cons=>exact Or.inl rfl
 | _=>first|exact Or.inl rfl|exact Or.inr ⟨rfl,rfl⟩
theorem yG {k:Nat} (v:AV):M5 k (cv v)=false:=by
 cases v with
 | agg cs =>
  simp only[cv];cases h:D7 cs
  ·rfl
  ·exact ZJ h
 | j4 vs=>cases vs<;>rfl
 | fn p f g cs=>cases cs<;>rfl
 | _=>rfl
variable {tm:Tm} {M:Mem} {st:St}
theorem RX.ev (h:RX σ tm M st) {x:AP} {v:AV} (e:ex tm x=v) (hv:v ≠ .any):st.ev x=BC σ v:=by
 cases x with
 | t n =>
  simp only[ex]at e;rcases h.tm n with h|h
  ·exact absurd (e.symm.trans h) hv
  ·rw[e]at h;exact h
 | c u =>
  simp only[ex]at e;rcases yJ (σ:=σ) u with h|⟨h,h'⟩
  ·exact absurd (e.symm.trans h) hv
  ·rw[<-e,h,h'];rfl
theorem kT {k:Nat} (h:HP k tm=false) (x:AP):M5 k (ex tm x)=false:=by
 cases x with
 | t n=>exact SU h n
 | c u=>exact yG u
theorem pL {k:Nat} {v:AV} {cs:List AV} (h:M5 k v=false) (e:cellsOf v=some cs):HO k cs=false:=by
 cases v<;>simp only[cellsOf,Option.some.injEq,reduceCtorEq]at e<;>subst e<;>first|exact h|rfl|(simp only[M5,OY]at h;simp only[HO,h,cond_false])
theorem NU {v:AV} {cs:List AV} (e:cellsOf v=some cs):cellsOf (BC σ v)=some (cs.map (A8 σ)):=by
 cases v<;>simp only[cellsOf,Option.some.injEq,reduceCtorEq]at e<;>subst e<;>rfl
def A7.flat:A7->Prop
 | .mx rows => ∀ (i:Nat) (x:Nat × List (List AV)),rows[i]? = some (some x)->False
 | .hx _ _ _=>False
 | .vw _ _=>False
 | _=>True
theorem DS {M:Mem} {k s:Nat} {c:A7} (h:c8 M k=some (s,c)):c6 M k 0=some c:=by simp [c6,h]
theorem H0 {M:Mem} {k t:Nat} {c:A7} (h:c6 M k t=some c) : ∃ s c0,c8 M k=some (s,c0)/\(t=0->c=c0)/\(∀ i,t=i+1 -> ∃ rows z es,((c0 = .mx rows \/ ∃ a v,c0 = .hx a v rows) \/ ∃ w,c0 = .vw w rows)/\rows[i]? = some (some (z,es))/\c = .rw z es):=by
 unfold c6 at h;cases hm:c8 M k with
 | none=>simp [hm]at h
 | some x =>
  obtain ⟨s,c0⟩:=x;simp only[hm]at h;refine ⟨s,c0,rfl,?_,?_⟩
  ·rintro rfl;exact (Option.some.inj h).symm
  ·rintro i rfl
   cases c0 with
   | mx rows =>
    simp only at h;cases hr:rows[i]? with
    | none=>simp [hr]at h
    | some r =>
     cases r with
     | none=>simp [hr]at h
     | some ze=>obtain ⟨z,es⟩:=ze;simp only[hr,Option.some.injEq]at h;exact ⟨rows,z,es,Or.inl (Or.inl rfl),hr,h.symm⟩
   | hx a v rows =>
    simp only at h;cases hr:rows[i]? with
    | none=>simp [hr]at h
    | some r =>
     cases r with
     | none=>simp [hr]at h
     | some ze=>obtain ⟨z,es⟩:=ze;simp only[hr,Option.some.injEq]at h;exact ⟨rows,z,es,Or.inl (Or.inr ⟨a,v,rfl⟩),hr,h.symm⟩
   | vw w rows =>
    simp only at h;cases hr:rows[i]? with
    | none=>simp [hr]at h
    | some r =>
     cases r with
     | none=>simp [hr]at h
     | some ze=>obtain ⟨z,es⟩:=ze;simp only[hr,Option.some.injEq]at h;exact ⟨rows,z,es,Or.inr ⟨w,rfl⟩,hr,h.symm⟩
   | _=>simp at h
theorem N5 {M:Mem} {k s:Nat} {c:A7} {j t:Nat} (h:j≠k):c6 ((k,s,c)::M) j t=c6 M j t:=by
 simp only[c6,c8,FM.2 h,cond_false]
theorem QV {M:Mem} {k s:Nat} {c:A7}:c6 ((k,s,c)::M) k 0=some c:=by simp [c6,c8]
theorem SK {M:Mem} {k s:Nat} {c:A7} (hc:c.flat) {t:Nat} {c':A7} (h:c6 ((k,s,c)::M) k t=some c'):t=0/\c'=c:=by
 cases t with
 | zero=>rw[QV]at h;exact ⟨rfl,(Option.some.inj h).symm⟩
 | succ i =>
  simp only[c6,c8,Nat.beq_refl,cond_true]at h;cases c with
  | mx rows =>
   simp only at h;split at h
   ·rename_i z es hr
    exact (hc i (z,es) hr).elim
   ·cases h
  | hx a v rows=>exact hc.elim
  | vw w rows=>exact hc.elim
  | _=>simp at h
theorem Tt {σ σ':FU} {k k':Nat} {rows:List (Option (Nat × List (List AV)))} (h:A7.flat (.mx rows)):B4 σ k 0 rows=B4 σ' k' 0 rows:=by
 apply List.ext_getElem?;intro j;rw[FI,FI];cases hr:rows[j]? with
 | none=>rfl
 | some r=>cases r with
  | none=>rfl
  | some x=>exact (h j x hr).elim
theorem RX.da (h:RX σ tm M st) {s q:Nat} (hm:GQ s M=false) (ht:HP s tm=false) (c:A7) (hf:c.flat) (hc:GZ s c=false) (hl:c.kr=true->EU q=true) :
  RX (C8 σ s λ_=>(q,st.own.g8 q)) tm ((s,q,c)::M) ⟨st.tm,st.own.put q ((st.own q).new (c.e6 σ s))⟩:=by
 have Fv : ∀ j t c',c6 M j t=some c'->((st.own.put q ((st.own q).new (c.e6 σ s))) (σ j t).1).e6 (σ j t).2=(st.own (σ j t).1).e6 (σ j t).2:=by
  intro j t c' e;by_cases hs:(σ j t).1=q
  ·have ho:=h.sat.old _ _ _ e
   rw[hs]at ho ⊢;simp only[AH.g9,B8.new];rw[if_neg (by omega)]
  ·rw[AH.et _ _ _ _ hs]
 have wj : ∀ s',(st.own s').g8<=((st.own.put q ((st.own q).new (c.e6 σ s))) s').g8:=by
  intro s';by_cases hs:s'=q
  ·subst hs;simp only[AH.g9,B8.new];omega
  ·rw[AH.et _ _ _ _ hs];exact Nat.le_refl _
 have m8 : ∀ j t c',j≠s->c6 ((s,q,c)::M) j t=some c'->c6 M j t=some c':=λ j t c' hj e=>by rwa [N5 hj]at e
 have xf : ∀ j t c',c6 M j t=some c'->GZ s c'=false/\j≠s:=by
  intro j t c' e;obtain ⟨s1,c0,g1,g2,g3⟩:=H0 e;obtain ⟨g4,g5⟩:=N6 hm _ _ _ g1;refine ⟨?_,g4⟩;cases t with
  | zero=>rw[g2 rfl];exact g5
  | succ i=>obtain ⟨rows,z,es,_,_,rfl⟩:=g3 i rfl;rfl
 refine ⟨λ j => ?_,⟨?_,?_,?_,?_,?_⟩⟩
 ·rw[YD (SU ht j)];exact h.tm j
 ·intro j s' c' e
  simp only[c8]at e;cases hb:Nat.beq j s<;>simp only[hb,cond_true,cond_false]at e
  ·rw[CW _ (FM.1 hb)];exact h.sat.site _ _ _ e
  ·simp only[Option.some.injEq,Prod.mk.injEq]at e
   obtain ⟨rfl,rfl⟩:=e;rw[BJ.1 hb,BV]
 ·intro j t c' e
  by_cases hj:j=s
  ·subst hj
   obtain ⟨rfl,rfl⟩:=SK hf e;have hb:c'.e6 (C8 σ j λ_=>(q,st.own.g8 q)) j=c'.e6 σ j:=by
    cases c' with
    | bx cs=>simp only[GZ]at hc;simp only[A7.e6,SW hc]
    | rw z es=>rfl
    | bs z es=>simp only[GZ]at hc;simp only[A7.e6,dH hc]
    | mx rows=>exact congrArg (DZ.mk 1) (Tt hf)
    | hx a v rows=>exact hf.elim
    | vw w rows=>exact hf.elim
   rw[BV,hb];simp [AH.g9,B8.new,AH.g8]
  ·have e':=m8 j t c' hj e
   rw[CW _ hj,V8 (xf j t c' e').1 hj];exact (Fv j t c' e').trans (h.sat.e6 _ _ _ e')
 ·intro j t c' e
  by_cases hj:j=s
  ·subst hj
   rw[BV];simp [AH.g9,B8.new,AH.g8]
  ·have e':=m8 j t c' hj e
   rw[CW _ hj];exact Nat.lt_of_lt_of_le (h.sat.old _ _ _ e') (wj _)
 ·have jz : ∀ j t c',c6 M j t=some c'->σ j t=(q,st.own.g8 q)->False:=by
   intro j t c' e hh;have h2:=h.sat.old _ _ _ e;rw[hh]at h2;exact absurd h2 (Nat.lt_irrefl _)
  intro j t j' t' c1 c2 e1 e2 hj;by_cases h1:j=s<;>by_cases h2:j'=s
  ·subst h1;subst h2
   exact ⟨rfl,(SK hf e1).1.trans (SK hf e2).1.symm⟩
  ·subst h1
   rw[BV,CW _ h2]at hj;exact (jz _ _ _ (m8 _ _ _ h2 e2) hj.symm).elim
  ·subst h2
   rw[BV,CW _ h1]at hj;exact (jz _ _ _ (m8 _ _ _ h1 e1) hj).elim
  ·rw[CW _ h1,CW _ h2]at hj
   exact h.sat.inj _ _ _ _ _ _ (m8 _ _ _ h1 e1) (m8 _ _ _ h2 e2) hj
 ·intro j t c' e hw
  by_cases hj:j=s
  ·subst hj
   obtain ⟨rfl,rfl⟩:=SK hf e;rw[BV];exact hl hw
  ·rw[CW _ hj];exact h.sat.low _ _ _ (m8 j t c' hj e) hw
theorem KS {k j:Nat} {x:Nat × A7} : ∀ {M:Mem},c8 (o5 k M) j=some x->j≠k/\c8 M j=some x
 | [],e=>by cases e
 | (i,s,c)::r,e=>by
  simp only[o5]at e;cases hb:Nat.beq k i<;>simp only[hb,cond_true,cond_false]at e
  ·simp only[c8]at e ⊢
   cases hj:Nat.beq j i<;>simp only[hj,cond_true,cond_false]at e ⊢
   ·exact KS e
   ·exact ⟨λ e'=>FM.1 hb (e'.symm.trans (BJ.1 hj)),e⟩
  ·obtain ⟨h1,h2⟩:=KS e
   refine ⟨h1,?_⟩;simp only[c8];rw[FM.2 (λ e'=>h1 (e'.trans (BJ.1 hb).symm))];exact h2
theorem Q0 {own:AH} {p:Nat × Nat} {x:Option DZ} {q:Nat × Nat} (h:q≠p):((own.put p.1 ((own p.1).o9 p.2 x)) q.1).e6 q.2=(own q.1).e6 q.2:=by
 by_cases hs:q.1=p.1
 ·rw[hs,AH.g9]
  simp only[B8.o9];rw[if_neg (λ e=>h (Prod.ext hs e))]
 ·rw[AH.et _ _ _ _ hs]
theorem XW {own:AH} {p:Nat × Nat} {x:Option DZ}:((own.put p.1 ((own p.1).o9 p.2 x)) p.1).e6 p.2=x:=by simp [AH.g9,B8.o9]
theorem UX {own:AH} {p:Nat × Nat} {x:Option DZ} (s:Nat):((own.put p.1 ((own p.1).o9 p.2 x)) s).g8=(own s).g8:=by
 by_cases hs:s=p.1
 ·subst hs;rw[AH.g9];rfl
 ·rw[AH.et _ _ _ _ hs]
theorem RX.Hi (h:RX σ tm M st) {k s:Nat} {c:A7} (e:c8 M k=some (s,c)) (hf:c.flat) (c':A7) (kf:c'.flat) (Yz:c'.kr=true->c.kr=true) :
  RX σ tm ((k,s,c')::M) ⟨st.tm,st.own.put s ((st.own s).o9 (σ k 0).2 (some (c'.e6 σ k)))⟩:=by
 have hs:=h.sat.site _ _ _ e;subst hs;have e0:=DS e;have hg : ∀ j t c1,c6 ((k,(σ k 0).1,c')::M) j t=some c1->(j=k/\t=0/\c1=c')\/(j≠k/\c6 M j t=some c1):=by
  intro j t c1 e1;by_cases hj:j=k
  ·subst hj
   obtain ⟨rfl,rfl⟩:=SK kf e1;exact Or.inl ⟨rfl,rfl,rfl⟩
  ·rw[N5 hj]at e1
   exact Or.inr ⟨hj,e1⟩
 have nm : ∀ j t c1,c6 ((k,(σ k 0).1,c')::M) j t=some c1 -> ∃ c2,c6 M j t=some c2:=by
  intro j t c1 e1;rcases hg j t c1 e1 with ⟨rfl,rfl,rfl⟩|⟨_,h2⟩
  ·exact ⟨c,e0⟩
  ·exact ⟨c1,h2⟩
 refine ⟨h.tm,⟨?_,?_,?_,?_,?_⟩⟩
 ·intro j s' c1 e1
  simp only[c8]at e1;cases hb:Nat.beq j k<;>simp only[hb,cond_true,cond_false]at e1
  ·exact h.sat.site _ _ _ e1
  ·simp only[Option.some.injEq,Prod.mk.injEq]at e1
   rw[BJ.1 hb];exact e1.1
 ·intro j t c1 e1
  rcases hg j t c1 e1 with ⟨rfl,rfl,rfl⟩|⟨h1,h2⟩
  ·exact XW
  ·refine (Q0 (λ he => ?_)).trans (h.sat.e6 _ _ _ h2)
   exact h1 (h.sat.inj _ _ _ _ _ _ h2 e0 he).1
 ·intro j t c1 e1
  obtain ⟨c2,e2⟩:=nm _ _ _ e1;show (σ j t).2<((st.own.put (σ k 0).1 ((st.own (σ k 0).1).o9 (σ k 0).2 (some (c'.e6 σ k)))) (σ j t).1).g8;rw[UX];exact h.sat.old _ _ _ e2
 ·intro j t j' t' c1 c2 e1 e2 hj
  obtain ⟨_,zr⟩:=nm _ _ _ e1;obtain ⟨_,vo⟩:=nm _ _ _ e2;exact h.sat.inj _ _ _ _ _ _ zr vo hj
 ·intro j t c1 e1 hw
  rcases hg j t c1 e1 with ⟨rfl,rfl,rfl⟩|⟨_,h2⟩
  ·exact h.sat.low _ _ _ e0 (Yz hw)
  ·exact h.sat.low _ _ _ h2 hw
theorem nY {k t:Nat} {c:A7} (h:c6 M k (t+1)=some c):c.kr=true:=by
 obtain ⟨_,_,_,_,g3⟩:=H0 h;obtain ⟨_,_,_,_,_,rfl⟩:=g3 t rfl;rfl
theorem HM {k j t:Nat} {c:A7} (h:c6 (o5 k M) j t=some c):j≠k/\c6 M j t=some c:=by
 obtain ⟨s,c0,g1,_⟩:=H0 h;obtain ⟨h1,h2⟩:=KS g1;refine ⟨h1,?_⟩;unfold c6 at h ⊢;rw[g1]at h;rw[h2];exact h
theorem RX.kill (h:RX σ tm M st) {k s:Nat} {c:A7} (e:c8 M k=some (s,c)) :
  RX σ tm (o5 k M) ⟨st.tm,st.own.put s ((st.own s).o9 (σ k 0).2 none)⟩:=by
 have hs:=h.sat.site _ _ _ e;subst hs;have e0:=DS e;refine ⟨h.tm,⟨?_,?_,?_,?_,?_⟩⟩
 ·intro j s' c1 e1
  exact h.sat.site _ _ _ (KS e1).2
 ·intro j t c1 e1
  obtain ⟨hj,e1⟩:=HM e1;refine (Q0 (λ he => ?_)).trans (h.sat.e6 _ _ _ e1);exact hj (h.sat.inj _ _ _ _ _ _ e1 e0 he).1
 ·intro j t c1 e1
  obtain ⟨hj,e1⟩:=HM e1;show (σ j t).2<((st.own.put (σ k 0).1 ((st.own (σ k 0).1).o9 (σ k 0).2 none)) (σ j t).1).g8;rw[UX];exact h.sat.old _ _ _ e1
 ·intro j t j' t' c1 c2 e1 e2 hj
  exact h.sat.inj _ _ _ _ _ _ (HM e1).2 (HM e2).2 hj
 ·intro j t c1 e1 hw
  exact h.sat.low _ _ _ (HM e1).2 hw
theorem RX.Hf (h:RX σ tm M st) {k s i z:Nat} {rows:List (Option (Nat × List (List AV)))} {es es':List (List AV)} (e:c8 M k=some (s,.mx rows)) (hr:rows[i]? = some (some (z,es))) (hl:es'.length=es.length) :
  RX σ tm ((k,s,.mx (rows.set i (some (z,es'))))::M) ⟨st.tm,st.own.put (σ k (i+1)).1 ((st.own (σ k (i+1)).1).o9 (σ k (i+1)).2 (some ⟨z,es'⟩))⟩:=by
 have e1:c6 M k (i+1)=some (.rw z es):=by simp [c6,e,hr]
 have hi:i<rows.length:=(zS hr).1;have jg:B4 σ k 0 (rows.set i (some (z,es')))=B4 σ k 0 rows:=by
  apply List.ext_getElem?;intro j;rw[FI,FI];by_cases hj:i=j
  ·subst hj;rw[List.getElem?_set_self hi,hr];simp [hl]
  ·rw[List.getElem?_set_ne hj]
 have hg : ∀ j t c1,c6 ((k,s,.mx (rows.set i (some (z,es'))))::M) j t=some c1->(j=k/\t=i+1/\c1 = .rw z es')\/(¬ (j=k/\t=i+1) /\ ∃ c2,c6 M j t=some c2/\c2.e6 σ j=c1.e6 σ j):=by
  intro j t c1 g;by_cases hj:j=k
  ·subst hj
   cases t with
   | zero =>
    rw[QV]at g;obtain rfl:=Option.some.inj g;exact Or.inr ⟨by omega,_,DS e,by simp only[A7.e6,jg]⟩
   | succ t =>
    simp only[c6,c8,Nat.beq_refl,cond_true]at g;by_cases jv:i=t
    ·subst jv
     rw[List.getElem?_set_self hi]at g;exact Or.inl ⟨rfl,rfl,(Option.some.inj g).symm⟩
    ·rw[List.getElem?_set_ne jv]at g
     refine Or.inr ⟨by omega,c1,?_,rfl⟩;simp only[c6,e];exact g
  ·rw[N5 hj]at g
   exact Or.inr ⟨by omega,c1,g,rfl⟩
 have nm : ∀ j t c1,c6 ((k,s,.mx (rows.set i (some (z,es'))))::M) j t=some c1 -> ∃ c2,c6 M j t=some c2:=by
  intro j t c1 g;rcases hg j t c1 g with ⟨rfl,rfl,rfl⟩|⟨_,c2,h2,_⟩
  ·exact ⟨_,e1⟩
  ·exact ⟨c2,h2⟩
 refine ⟨h.tm,⟨?_,?_,?_,?_,?_⟩⟩
 ·intro j s' c1 g
  simp only[c8]at g;cases hb:Nat.beq j k<;>simp only[hb,cond_true,cond_false]at g
  ·exact h.sat.site _ _ _ g
  ·simp only[Option.some.injEq,Prod.mk.injEq]at g
   rw[BJ.1 hb,<-g.1];exact h.sat.site _ _ _ e
 ·intro j t c1 g
  rcases hg j t c1 g with ⟨rfl,rfl,rfl⟩|⟨h1,c2,h2,h3⟩
  ·exact XW
  ·rw[<-h3]
   refine (Q0 (λ he => ?_)).trans (h.sat.e6 _ _ _ h2);exact h1 (h.sat.inj _ _ _ _ _ _ h2 e1 he)
 ·intro j t c1 g
  obtain ⟨c2,e2⟩:=nm _ _ _ g;show (σ j t).2<((st.own.put (σ k (i+1)).1 ((st.own (σ k (i+1)).1).o9 (σ k (i+1)).2 (some ⟨z,es'⟩))) (σ j t).1).g8;rw[UX];exact h.sat.old _ _ _ e2
 ·intro j t j' t' c1 c2 g1 g2 hj
  obtain ⟨_,zr⟩:=nm _ _ _ g1;obtain ⟨_,vo⟩:=nm _ _ _ g2;exact h.sat.inj _ _ _ _ _ _ zr vo hj
 ·intro j t c1 g hw
  obtain ⟨c2,e2⟩:=nm _ _ _ g;cases t with
  | zero =>
   by_cases hj:j=k
   ·subst hj;exact h.sat.low _ _ _ (DS e) rfl
   ·rw[N5 hj]at g;exact h.sat.low _ _ _ g hw
  | succ t=>exact h.sat.low _ _ _ e2 (nY e2)
section
variable {k:Nat} {f:Nat->Nat × Nat}
theorem dI {v:AV} (hf:f 0=σ k 0) (h:OM k v=false):A8 (C8 σ k f) v=A8 σ v:=by
 cases v with
 | row j t z o n =>
  simp only[OM]at h;cases hb:Nat.beq j k
  ·simp only[A8,CW f (FM.1 hb)]
  ·obtain rfl:=BJ.1 hb
   simp only[hb,cond_true]at h;cases t with
   | zero=>simp only[A8,BV,hf]
   | succ t=>cases h
 | ptr j t a b =>
  simp only[OM]at h;cases hb:Nat.beq j k
  ·simp only[A8,CW f (FM.1 hb)]
  ·obtain rfl:=BJ.1 hb
   simp only[hb,cond_true]at h;cases t with
   | zero=>simp only[A8,BV,hf]
   | succ t=>cases h
 | _=>rfl
theorem U9 (hf:f 0=σ k 0) : ∀ {cs:List AV},NW k cs=false->cs.map (A8 (C8 σ k f))=cs.map (A8 σ)
 | [],_=>rfl
 | c::r,h=>by
  simp only[NW]at h;cases h1:OM k c<;>simp only[h1,cond_true,cond_false]at h
  ·rw[List.map_cons,List.map_cons,dI hf h1,U9 hf h]
  ·cases h
theorem qN (hf:f 0=σ k 0) : ∀ {es:List (List AV)},RW k es=false->(es.map λ cs=>cs.map (A8 (C8 σ k f)))=es.map λ cs=>cs.map (A8 σ)
 | [],_=>rfl
 | c::r,h=>by
  simp only[RW]at h;cases h1:NW k c<;>simp only[h1,cond_true,cond_false]at h
  ·rw[List.map_cons,List.map_cons,U9 hf h1,qN hf h]
  ·cases h
theorem VB {v:AV} (hf:f 0=σ k 0) (h:QC k v=false):BT (C8 σ k f) v=BT σ v:=by
 cases v with
 | agg cs=>simp only[QC]at h;simp only[BT,U9 hf h]
 | fn p f g cs=>simp only[QC]at h;simp only[BT,U9 hf h]
 | row a b c d e=>exact dI (v := .row a b c d e) hf h
 | ptr a b c d=>exact dI (v := .ptr a b c d) hf h
 | _=>rfl
theorem qO (hf:f 0=σ k 0) : ∀ {cs:List AV},RV k cs=false->cs.map (BT (C8 σ k f))=cs.map (BT σ)
 | [],_=>rfl
 | c::r,h=>by
  simp only[RV]at h;cases h1:QC k c<;>simp only[h1,cond_true,cond_false]at h
  ·rw[List.map_cons,List.map_cons,VB hf h1,qO hf h]
  ·cases h
theorem Wa {v:AV} (hf:f 0=σ k 0) (h:PA k v=false):BC (C8 σ k f) v=BC σ v:=by
 cases v with
 | j4 cs=>simp only[PA]at h;simp only[BC,qO hf h]
 | agg cs=>exact VB (v := .agg cs) hf h
 | fn p f g cs=>exact VB (v := .fn p f g cs) hf h
 | row a b c d e=>exact VB (v := .row a b c d e) hf h
 | ptr a b c d=>exact VB (v := .ptr a b c d) hf h
 | _=>rfl
theorem gF : ∀ {tm:Tm},NX k tm=false -> ∀ j,PA k (tg tm j)=false
 | [],_,_=>rfl
 | (i,v)::r,h,j=>by
  simp only[NX]at h;cases h1:PA k v<;>simp only[h1,cond_true,cond_false]at h
  ·simp only[tg]
   cases Nat.beq j i
   ·exact gF h j
   ·exact h1
  ·cases h
theorem gC : ∀ {M:Mem},JU k M=false -> ∀ j s c,c8 M j=some (s,c)->ON k c=false
 | [],_,_,_,_,e=>by cases e
 | (i,s0,c0)::r,h,j,s,c,e=>by
  simp only[JU]at h;cases h1:ON k c0<;>simp only[h1,cond_true,cond_false]at h
  ·simp only[c8]at e
   cases h2:Nat.beq j i<;>simp only[h2,cond_true,cond_false]at e
   ·exact gC h j s c e
   ·simp only[Option.some.injEq,Prod.mk.injEq]at e
    obtain ⟨_,rfl⟩:=e;exact h1
  ·cases h
theorem wN {c:A7} {j:Nat} (hf:f 0=σ k 0) (h:ON k c=false) (hj:j≠k):c.e6 (C8 σ k f) j=c.e6 σ j:=by
 cases c with
 | bx cs=>simp only[ON]at h;simp only[A7.e6,U9 hf h]
 | rw z es=>rfl
 | bs z es=>simp only[ON]at h;simp only[A7.e6,qN hf h]
 | mx rows=>simp only[A7.e6];rw[PL rows 0 λ i _=>by rw[CW f hj]]
 | hx a v rows=>simp only[A7.e6];rw[PL rows 0 λ i _=>by rw[CW f hj]]
 | vw w rows=>simp only[A7.e6];rw[PL rows 0 λ i _=>by rw[CW f hj]]
end
theorem RX.xu (h:RX σ tm M st) {k k2 s s2 i z:Nat} {rows:List (Option (Nat × List (List AV)))} {es:List (List AV)} {c0:A7} (e:c8 M k=some (s,c0)) (fy:c0 = .mx rows \/ ∃ v,c0 = .hx i v rows) (e2:c8 M k2=some (s2,.rw z es)) (hk:k≠k2) (cb:NX k tm=false) (qa:JU k M=false) (hi:i<rows.length) :
  RX (C8 σ k λ t=>if t=i+1 then σ k2 0 else σ k t) tm ((k,s,.mx (rows.set i (some (z,es))))::o5 k2 M) ⟨st.tm,st.own.put s ((st.own s).o9 (σ k 0).2 (some ⟨1,(B4 σ k 0 rows).set i [.row (σ k2 0).1 (σ k2 0).2 z 0 es.length]⟩))⟩:=by
 have hs:=h.sat.site _ _ _ e;subst hs;have r0:=DS e;have r2:=DS e2;have f0:(λ t=>if t=i+1 then σ k2 0 else σ k t) 0=σ k 0:=by simp
 have jg:B4 (C8 σ k λ t=>if t=i+1 then σ k2 0 else σ k t) k 0 (rows.set i (some (z,es)))=(B4 σ k 0 rows).set i [.row (σ k2 0).1 (σ k2 0).2 z 0 es.length]:=by
  apply List.ext_getElem?;intro j;rw[FI,BV];by_cases hj:i=j
  ·subst hj
   rw[List.getElem?_set_self hi,List.getElem?_set_self (by rw[E4];exact hi)];simp
  ·rw[List.getElem?_set_ne hj,List.getElem?_set_ne hj,FI]
   congr 1;funext r
   cases r with
   | none=>rfl
   | some x=>simp only[Nat.zero_add];rw[if_neg (by omega)]
 have hg : ∀ j t c,c6 ((k,(σ k 0).1,.mx (rows.set i (some (z,es))))::o5 k2 M) j t=some c ->
   (j=k/\t=0/\c = .mx (rows.set i (some (z,es))))\/(j=k/\t=i+1/\c = .rw z es)\/(j=k/\t≠0/\t≠i+1/\c6 M k t=some c)\/(j≠k/\j≠k2/\c6 M j t=some c):=by
  intro j t c g;by_cases hj:j=k
  ·subst hj
   cases t with
   | zero=>rw[QV]at g;exact Or.inl ⟨rfl,rfl,(Option.some.inj g).symm⟩
   | succ t =>
    simp only[c6,c8,Nat.beq_refl,cond_true]at g;by_cases jv:i=t
    ·subst jv
     rw[List.getElem?_set_self hi]at g;exact Or.inr (Or.inl ⟨rfl,rfl,(Option.some.inj g).symm⟩)
    ·rw[List.getElem?_set_ne jv]at g
     refine Or.inr (Or.inr (Or.inl ⟨rfl,by omega,by omega,?_⟩));rcases fy with rfl|⟨v,rfl⟩
     ·simp only[c6,e]
      exact g
     ·simp only[c6,e]
      exact g
  ·rw[N5 hj]at g
   obtain ⟨g1,g2⟩:=HM g;exact Or.inr (Or.inr (Or.inr ⟨hj,g1,g2⟩))
 have Yk : ∀ j t c,c6 M j t=some c->ON k c=false:=by
  intro j t c g;obtain ⟨s1,c0,g1,g2,g3⟩:=H0 g;cases t with
  | zero=>rw[g2 rfl];exact gC qa _ _ _ g1
  | succ t=>obtain ⟨_,_,_,_,_,rfl⟩:=g3 t rfl;rfl
 refine ⟨λ j => ?_,⟨?_,?_,?_,?_,?_⟩⟩
 ·rw[Wa (f:=λ t=>if t=i+1 then σ k2 0 else σ k t) f0 (gF cb j)];exact h.tm j
 ·intro j s' c g
  simp only[c8]at g;cases hb:Nat.beq j k<;>simp only[hb,cond_true,cond_false]at g
  ·rw[CW _ (FM.1 hb)];exact h.sat.site _ _ _ (KS g).2
  ·simp only[Option.some.injEq,Prod.mk.injEq]at g
   rw[BJ.1 hb,BV,<-g.1];simp
 ·intro j t c g
  rcases hg j t c g with ⟨rfl,rfl,rfl⟩|⟨rfl,rfl,rfl⟩|⟨rfl,h0,h1,g2⟩|⟨h0,h1,g2⟩
  ·rw[BV]
   simp only[A7.e6,jg];exact XW
  ·rw[BV]
   simp only[if_true];exact (Q0 (λ he=>hk (h.sat.inj _ _ _ _ _ _ r2 r0 he).1.symm)).trans (h.sat.e6 _ _ _ r2)
  ·rw[BV]
   simp only[h1,if_false];have hb:c.e6 (C8 σ j λ t=>if t=i+1 then σ k2 0 else σ j t) j=c.e6 σ j:=by
    obtain ⟨_,_,_,_,g3⟩:=H0 g2;obtain ⟨t',rfl⟩ : ∃ t',t=t'+1:=⟨t-1,by omega⟩;obtain ⟨_,_,_,_,_,rfl⟩:=g3 t' rfl;rfl
   rw[hb];exact (Q0 (λ he=>h0 (h.sat.inj _ _ _ _ _ _ g2 r0 he).2)).trans (h.sat.e6 _ _ _ g2)
  ·rw[CW _ h0,wN (f:=λ t=>if t=i+1 then σ k2 0 else σ k t) f0 (Yk _ _ _ g2) h0]
   exact (Q0 (λ he=>h0 (h.sat.inj _ _ _ _ _ _ g2 r0 he).1)).trans (h.sat.e6 _ _ _ g2)
 ·intro j t c g
  rw[UX];rcases hg j t c g with ⟨rfl,rfl,rfl⟩|⟨rfl,rfl,rfl⟩|⟨rfl,h0,h1,g2⟩|⟨h0,h1,g2⟩
  ·rw[BV];simpa using h.sat.old _ _ _ r0
  ·rw[BV];simpa using h.sat.old _ _ _ r2
  ·rw[BV];simp only[h1,if_false];exact h.sat.old _ _ _ g2
  ·rw[CW _ h0];exact h.sat.old _ _ _ g2
 ·-- each name is that of zi in the old memory
  have hold : ∀ j t c,c6 ((k,(σ k 0).1,.mx (rows.set i (some (z,es))))::o5 k2 M) j t=some c -> ∃ j0 t0 c0,c6 M j0 t0=some c0/\(C8 σ k λ t=>if t=i+1 then σ k2 0 else σ k t) j t=σ j0 t0/\((j0=k2/\t0=0/\j=k/\t=i+1)\/(j0=j/\t0=t/\j≠k2)):=by
   intro j t c g;rcases hg j t c g with ⟨rfl,rfl,rfl⟩|⟨rfl,rfl,rfl⟩|⟨rfl,h0,h1,g2⟩|⟨h0,h1,g2⟩
   ·exact ⟨_,_,_,r0,by rw[BV];simp,Or.inr ⟨rfl,rfl,hk⟩⟩
   ·exact ⟨_,_,_,r2,by rw[BV];simp,Or.inl ⟨rfl,rfl,rfl,rfl⟩⟩
   ·exact ⟨_,_,_,g2,by rw[BV];simp [h1],Or.inr ⟨rfl,rfl,hk⟩⟩
   ·exact ⟨_,_,_,g2,by rw[CW _ h0],Or.inr ⟨rfl,rfl,h1⟩⟩
  intro j t j' t' c c' g g' hj;obtain ⟨j0,t0,c0,a1,a2,a3⟩:=hold j t c g;obtain ⟨j1,t1,c1,b1,b2,b3⟩:=hold j' t' c' g';rw[a2,b2]at hj;obtain ⟨q1,q2⟩:=h.sat.inj _ _ _ _ _ _ a1 b1 hj;rcases a3 with ⟨x1,x2,x3,x4⟩|⟨x1,x2,x3⟩<;>rcases b3 with ⟨y1,y2,y3,y4⟩|⟨y1,y2,y3⟩
  ·exact ⟨x3.trans y3.symm,x4.trans y4.symm⟩
  ·exact absurd (y1.symm.trans (q1.symm.trans x1)) y3
  ·exact absurd (x1.symm.trans (q1.trans y1)) x3
  ·exact ⟨x1.symm.trans (q1.trans y1),x2.symm.trans (q2.trans y2)⟩
 ·intro j t c g hw
  rcases hg j t c g with ⟨rfl,rfl,rfl⟩|⟨rfl,rfl,rfl⟩|⟨rfl,h0,h1,g2⟩|⟨h0,h1,g2⟩
  ·rw[BV];simpa using h.sat.low _ _ _ r0 (by rcases fy with rfl|⟨v,rfl⟩<;>rfl)
  ·rw[BV];simpa using h.sat.low _ _ _ r2 rfl
  ·rw[BV];simp only[h1,if_false];exact h.sat.low _ _ _ g2 hw
  ·rw[CW _ h0];exact h.sat.low _ _ _ g2 hw
theorem QR {own:AH} {q t:Nat} {b:DZ} {p:Nat × Nat} (h:p≠(q,t)) (ho:p.2<(own p.1).g8):((own.put q (((own q).o9 t none).new b)) p.1).e6 p.2=(own p.1).e6 p.2:=by
 by_cases hs:p.1=q
 ·rw[hs]at ho ⊢
  rw[AH.g9];simp only[B8.new,B8.o9];have h1 : ¬ p.2=(own q).g8:=by omega
  have h2 : ¬ p.2=t:=λ e=>h (Prod.ext hs e)
  simp only[h1,h2,if_false]
 ·rw[AH.et _ _ _ _ hs]
theorem QS {own:AH} {q t:Nat} {b:DZ} (s:Nat):(own s).g8<=((own.put q (((own q).o9 t none).new b)) s).g8:=by
 by_cases hs:s=q
 ·subst hs;rw[AH.g9];simp only[B8.new,B8.o9];omega
 ·rw[AH.et _ _ _ _ hs];exact Nat.le_refl _
theorem RX.Di (h:RX σ tm M st) {s key sk i z:Nat} {rows:List (Option (Nat × List (List AV)))} {es es':List (List AV)} (e:c8 M key=some (sk,.mx rows)) (hr:rows[i]? = some (some (z,es))) (hm:GQ s M=false) (ht:HP s tm=false) :
  RX (C8 σ s λ_=>((σ key (i+1)).1,st.own.g8 (σ key (i+1)).1)) tm ((s,(σ key (i+1)).1,.rw z es')::(key,sk,.hx i (.row (σ key (i+1)).1 (σ key (i+1)).2 z 0 es.length) (rows.set i none))::o5 key M)
   ⟨st.tm,st.own.put (σ key (i+1)).1 (((st.own (σ key (i+1)).1).o9 (σ key (i+1)).2 none).new ⟨z,es'⟩)⟩:=by
 have r0:=DS e;have e1:c6 M key (i+1)=some (.rw z es):=by simp [c6,e,hr]
 have hi:i<rows.length:=(zS hr).1;have Ap:key≠s:=(N6 hm _ _ _ e).1;have jg:(B4 (C8 σ s λ_=>((σ key (i+1)).1,st.own.g8 (σ key (i+1)).1)) key 0 (rows.set i none)).set i [.row (σ key (i+1)).1 (σ key (i+1)).2 z 0 es.length]=B4 σ key 0 rows:=by
  apply List.ext_getElem?;intro j;by_cases hj:i=j
  ·subst hj
   rw[List.getElem?_set_self (by rw[E4,List.length_set];exact hi),FI,hr];simp
  ·rw[List.getElem?_set_ne hj,FI,FI,List.getElem?_set_ne hj,CW _ Ap]
 have xf : ∀ j t c',c6 M j t=some c'->GZ s c'=false/\j≠s:=by
  intro j t c' g;obtain ⟨s1,c0,g1,g2,g3⟩:=H0 g;obtain ⟨g4,g5⟩:=N6 hm _ _ _ g1;refine ⟨?_,g4⟩;cases t with
  | zero=>rw[g2 rfl];exact g5
  | succ i=>obtain ⟨rows,z,es,_,_,rfl⟩:=g3 i rfl;rfl
 have hg : ∀ j t c,c6 ((s,(σ key (i+1)).1,.rw z es')::(key,sk,.hx i (.row (σ key (i+1)).1 (σ key (i+1)).2 z 0 es.length) (rows.set i none))::o5 key M) j t=some c ->
   (j=s/\t=0/\c = .rw z es')\/(j=key/\t=0/\c = .hx i (.row (σ key (i+1)).1 (σ key (i+1)).2 z 0 es.length) (rows.set i none))\/(j≠s /\ ¬ (j=key/\t=0) /\ ¬ (j=key/\t=i+1)/\(j=key -> ∃ z es,c = .rw z es)/\c6 M j t=some c):=by
  intro j t c g;by_cases hj:j=s
  ·subst hj
   obtain ⟨rfl,rfl⟩:=SK (c := .rw z es') trivial g;exact Or.inl ⟨rfl,rfl,rfl⟩
  ·rw[N5 hj]at g
   by_cases hk:j=key
   ·subst hk
    cases t with
    | zero=>rw[QV]at g;exact Or.inr (Or.inl ⟨rfl,rfl,(Option.some.inj g).symm⟩)
    | succ t =>
     simp only[c6,c8,Nat.beq_refl,cond_true]at g;by_cases jv:i=t
     ·subst jv
      rw[List.getElem?_set_self hi]at g;cases g
     ·rw[List.getElem?_set_ne jv]at g
      refine Or.inr (Or.inr ⟨hj,by omega,by omega,λ_ => ?_,?_⟩)
      ·split at g
       ·exact ⟨_,_,(Option.some.inj g).symm⟩
       ·cases g
      ·simp only[c6,e]
       exact g
   ·rw[N5 hk]at g
    obtain ⟨g1,g2⟩:=HM g;exact Or.inr (Or.inr ⟨hj,by omega,by omega,λ h=>absurd h hk,g2⟩)
 refine ⟨λ j => ?_,⟨?_,?_,?_,?_,?_⟩⟩
 ·rw[YD (SU ht j)];exact h.tm j
 ·intro j s1 c g
  simp only[c8]at g;cases hb:Nat.beq j s<;>simp only[hb,cond_true,cond_false]at g
  ·rw[CW _ (FM.1 hb)]
   cases q7:Nat.beq j key<;>simp only[q7,cond_true,cond_false]at g
   ·exact h.sat.site _ _ _ (KS g).2
   ·simp only[Option.some.injEq,Prod.mk.injEq]at g
    rw[BJ.1 q7,<-g.1];exact h.sat.site _ _ _ e
  ·simp only[Option.some.injEq,Prod.mk.injEq]at g
   rw[BJ.1 hb,BV,<-g.1]
 ·intro j t c g
  rcases hg j t c g with ⟨rfl,rfl,rfl⟩|⟨rfl,rfl,rfl⟩|⟨h0,h1,h2,h3,g2⟩
  ·rw[BV]
   simp [AH.g9,B8.new,AH.g8,B8.o9,A7.e6]
  ·rw[CW _ Ap]
   simp only[A7.e6,jg];exact (QR (λ he=>absurd (h.sat.inj _ _ _ _ _ _ r0 e1 he).2 (by omega)) (h.sat.old _ _ _ r0)).trans (h.sat.e6 _ _ _ r0)
  ·rw[CW _ h0,V8 (xf _ _ _ g2).1 h0]
   exact (QR (λ he=>h2 (h.sat.inj _ _ _ _ _ _ g2 e1 he)) (h.sat.old _ _ _ g2)).trans (h.sat.e6 _ _ _ g2)
 ·intro j t c g
  rcases hg j t c g with ⟨rfl,rfl,rfl⟩|⟨rfl,rfl,rfl⟩|⟨h0,h1,h2,h3,g2⟩
  ·rw[BV]
   simp [AH.g9,B8.new,AH.g8,B8.o9]
  ·rw[CW _ Ap]
   exact Nat.lt_of_lt_of_le (h.sat.old _ _ _ r0) (QS _)
  ·rw[CW _ h0]
   exact Nat.lt_of_lt_of_le (h.sat.old _ _ _ g2) (QS _)
 ·have hold : ∀ j t c,c6 ((s,(σ key (i+1)).1,.rw z es')::(key,sk,.hx i (.row (σ key (i+1)).1 (σ key (i+1)).2 z 0 es.length) (rows.set i none))::o5 key M) j t=some c->(j=s/\t=0)\/(j≠s /\ ∃ c0,c6 M j t=some c0):=by
   intro j t c g;rcases hg j t c g with ⟨rfl,rfl,rfl⟩|⟨rfl,rfl,rfl⟩|⟨h0,h1,h2,h3,g2⟩
   ·exact Or.inl ⟨rfl,rfl⟩
   ·exact Or.inr ⟨Ap,_,r0⟩
   ·exact Or.inr ⟨h0,_,g2⟩
  have kt : ∀ j0 t0 c0,c6 M j0 t0=some c0->((σ key (i+1)).1,st.own.g8 (σ key (i+1)).1)≠σ j0 t0:=by
   intro j0 t0 c0 g he;have:=h.sat.old _ _ _ g
   rw[<-he]at this;exact absurd this (Nat.lt_irrefl _)
  intro j t j' t' c c' g g' hj;rcases hold j t c g with ⟨rfl,rfl⟩|⟨a1,c1,a2⟩<;>rcases hold j' t' c' g' with ⟨rfl,rfl⟩|⟨b1,c2,b2⟩
  ·exact ⟨rfl,rfl⟩
  ·rw[BV,CW _ b1]at hj;exact absurd hj (kt _ _ _ b2)
  ·rw[BV,CW _ a1]at hj;exact absurd hj.symm (kt _ _ _ a2)
  ·rw[CW _ a1,CW _ b1]at hj
   exact h.sat.inj _ _ _ _ _ _ a2 b2 hj
 ·intro j t c g hw
  rcases hg j t c g with ⟨rfl,rfl,rfl⟩|⟨rfl,rfl,rfl⟩|⟨h0,h1,h2,h3,g2⟩
  ·rw[BV];exact h.sat.low _ _ _ e1 rfl
  ·rw[CW _ Ap];exact h.sat.low _ _ _ r0 rfl
  ·rw[CW _ h0];exact h.sat.low _ _ _ g2 hw
theorem RX.view (h:RX σ tm M st) {k s:Nat} {c0:A7} {rows:List (Option (Nat × List (List AV)))} {w:List Nat} (e:c8 M k=some (s,c0)) (fy:c0 = .mx rows \/ ∃ w0,c0 = .vw w0 rows) :
  RX σ tm ((k,s,.vw w rows)::M) ⟨st.tm,st.own.put s ((st.own s).o9 (σ k 0).2 (some (A7.e6 σ k (.vw w rows))))⟩:=by
 have hs:=h.sat.site _ _ _ e;subst hs;have r0:=DS e;have hg : ∀ j t c,c6 ((k,(σ k 0).1,.vw w rows)::M) j t=some c->(j=k/\t=0/\c = .vw w rows)\/(¬ (j=k/\t=0)/\c6 M j t=some c):=by
  intro j t c g;by_cases hj:j=k
  ·subst hj
   cases t with
   | zero=>rw[QV]at g;exact Or.inl ⟨rfl,rfl,(Option.some.inj g).symm⟩
   | succ t =>
    refine Or.inr ⟨by omega,?_⟩;simp only[c6,c8,Nat.beq_refl,cond_true]at g;rcases fy with rfl|⟨w0,rfl⟩
    ·simp only[c6,e]
     exact g
    ·simp only[c6,e]
     exact g
  ·rw[N5 hj]at g
   exact Or.inr ⟨by omega,g⟩
 have nm : ∀ j t c1,c6 ((k,(σ k 0).1,.vw w rows)::M) j t=some c1 -> ∃ c2,c6 M j t=some c2:=by
  intro j t c1 g;rcases hg j t c1 g with ⟨rfl,rfl,rfl⟩|⟨_,h2⟩
  ·exact ⟨_,r0⟩
  ·exact ⟨_,h2⟩
 refine ⟨h.tm,⟨?_,?_,?_,?_,?_⟩⟩
 ·intro j s' c1 g
  simp only[c8]at g;cases hb:Nat.beq j k<;>simp only[hb,cond_true,cond_false]at g
  ·exact h.sat.site _ _ _ g
  ·simp only[Option.some.injEq,Prod.mk.injEq]at g
   rw[BJ.1 hb];exact g.1
 ·intro j t c1 g
  rcases hg j t c1 g with ⟨rfl,rfl,rfl⟩|⟨h1,h2⟩
  ·exact XW
  ·refine (Q0 (λ he => ?_)).trans (h.sat.e6 _ _ _ h2)
   exact h1 (h.sat.inj _ _ _ _ _ _ h2 r0 he)
 ·intro j t c1 g
  obtain ⟨c2,e2⟩:=nm _ _ _ g;show (σ j t).2<((st.own.put (σ k 0).1 ((st.own (σ k 0).1).o9 (σ k 0).2 _)) (σ j t).1).g8;rw[UX];exact h.sat.old _ _ _ e2
 ·intro j t j' t' c1 c2 g1 g2 hj
  obtain ⟨_,zr⟩:=nm _ _ _ g1;obtain ⟨_,vo⟩:=nm _ _ _ g2;exact h.sat.inj _ _ _ _ _ _ zr vo hj
 ·intro j t c1 g hw
  rcases hg j t c1 g with ⟨rfl,rfl,rfl⟩|⟨_,h2⟩
  ·exact h.sat.low _ _ _ r0 (by rcases fy with rfl|⟨w0,rfl⟩<;>rfl)
  ·exact h.sat.low _ _ _ h2 hw
theorem RX.Dk (h:RX σ tm M st) {s key s':Nat} {rows:List (Option (Nat × List (List AV)))} (e:c8 M key=some (s',.mx rows)) (hm:GQ s M=false) (ht:HP s tm=false) :
  RX (C8 σ s λ t=>match t with|0=>(s',st.own.g8 s')|i+1=>σ key (i+1)) tm ((s,s',.mx (rows++[none]))::o5 key M)
   ⟨st.tm,st.own.put s' (((st.own s').o9 (σ key 0).2 none).new ⟨1,B4 σ key 0 rows++[[.nil]]⟩)⟩:=by
 have hs:=h.sat.site _ _ _ e;subst hs;have r0:=DS e;generalize hF:(λ t=>match t with|0=>((σ key 0).1,st.own.g8 (σ key 0).1)|i+1=>σ key (i+1):Nat->Nat × Nat)=F;have F0:F 0=((σ key 0).1,st.own.g8 (σ key 0).1):=by rw[<-hF]
 have F1 : ∀ i,F (i+1)=σ key (i+1):=by intro i;rw[<-hF]
 have jg:B4 (C8 σ s F) s 0 (rows++[none])=B4 σ key 0 rows++[[.nil]]:=by
  apply List.ext_getElem?;intro j;rw[FI,BV];rcases Nat.lt_trichotomy j rows.length with hj|hj|hj
  ·rw[List.getElem?_append_left hj,List.getElem?_append_left (by rw[E4];exact hj),FI]
   congr 1;funext r
   cases r with
   | none=>rfl
   | some x=>simp only[Nat.zero_add];rw[F1]
  ·subst hj
   rw[List.getElem?_append_right (Nat.le_refl _),List.getElem?_append_right (by rw[E4];exact Nat.le_refl _),E4];simp
  ·rw[List.getElem?_eq_none (by simp;omega),List.getElem?_eq_none (by simp [E4];omega)];rfl
 have xf : ∀ j t c',c6 M j t=some c'->GZ s c'=false/\j≠s:=by
  intro j t c' g;obtain ⟨s1,c0,g1,g2,g3⟩:=H0 g;obtain ⟨g4,g5⟩:=N6 hm _ _ _ g1;refine ⟨?_,g4⟩;cases t with
  | zero=>rw[g2 rfl];exact g5
  | succ i=>obtain ⟨rows,z,es,_,_,rfl⟩:=g3 i rfl;rfl
 have hg : ∀ j t c,c6 ((s,(σ key 0).1,.mx (rows++[none]))::o5 key M) j t=some c ->
   (j=s/\t=0/\c = .mx (rows++[none]))\/(j=s/\t≠0/\c6 M key t=some c)\/(j≠s/\j≠key/\c6 M j t=some c):=by
  intro j t c g;by_cases hj:j=s
  ·subst hj
   cases t with
   | zero=>rw[QV]at g;exact Or.inl ⟨rfl,rfl,(Option.some.inj g).symm⟩
   | succ t =>
    simp only[c6,c8,Nat.beq_refl,cond_true]at g;rcases Nat.lt_trichotomy t rows.length with lq|lq|lq
    ·rw[List.getElem?_append_left lq]at g
     refine Or.inr (Or.inl ⟨rfl,by omega,?_⟩);simp only[c6,e];exact g
    ·subst lq
     rw[List.getElem?_append_right (Nat.le_refl _),Nat.sub_self]at g;simp at g
    ·rw[List.getElem?_eq_none (by simp;omega)]at g;cases g
  ·rw[N5 hj]at g
   obtain ⟨g1,g2⟩:=HM g;exact Or.inr (Or.inr ⟨hj,g1,g2⟩)
 refine ⟨λ j => ?_,⟨?_,?_,?_,?_,?_⟩⟩
 ·rw[YD (SU ht j)];exact h.tm j
 ·intro j s1 c g
  simp only[c8]at g;cases hb:Nat.beq j s<;>simp only[hb,cond_true,cond_false]at g
  ·rw[CW _ (FM.1 hb)];exact h.sat.site _ _ _ (KS g).2
  ·simp only[Option.some.injEq,Prod.mk.injEq]at g
   rw[BJ.1 hb,BV,F0,<-g.1]
 ·intro j t c g
  rcases hg j t c g with ⟨rfl,rfl,rfl⟩|⟨rfl,h0,g2⟩|⟨h0,h1,g2⟩
  ·rw[BV,F0]
   simp only[A7.e6,jg];simp [AH.g9,B8.new,AH.g8,B8.o9]
  ·obtain ⟨t',rfl⟩ : ∃ t',t=t'+1:=⟨t-1,by omega⟩
   rw[BV,F1];have hb:c.e6 (C8 σ j F) j=c.e6 σ key:=by
    obtain ⟨_,_,_,_,g3⟩:=H0 g2;obtain ⟨_,_,_,_,_,rfl⟩:=g3 t' rfl;rfl
   rw[hb];exact (QR (λ he=>absurd (h.sat.inj _ _ _ _ _ _ g2 r0 he).2 (by omega)) (h.sat.old _ _ _ g2)).trans (h.sat.e6 _ _ _ g2)
  ·rw[CW _ h0,V8 (xf _ _ _ g2).1 h0]
   exact (QR (λ he=>h1 (h.sat.inj _ _ _ _ _ _ g2 r0 he).1) (h.sat.old _ _ _ g2)).trans (h.sat.e6 _ _ _ g2)
 ·intro j t c g
  rcases hg j t c g with ⟨rfl,rfl,rfl⟩|⟨rfl,h0,g2⟩|⟨h0,h1,g2⟩
  ·rw[BV,F0]
   simp [AH.g9,B8.new,AH.g8,B8.o9]
  ·obtain ⟨t',rfl⟩ : ∃ t',t=t'+1:=⟨t-1,by omega⟩
   rw[BV,F1];exact Nat.lt_of_lt_of_le (h.sat.old _ _ _ g2) (QS _)
  ·rw[CW _ h0]
   exact Nat.lt_of_lt_of_le (h.sat.old _ _ _ g2) (QS _)
 ·have hold : ∀ j t c,c6 ((s,(σ key 0).1,.mx (rows++[none]))::o5 key M) j t=some c->(j=s/\t=0) \/ ∃ j0 t0 c0,c6 M j0 t0=some c0/\C8 σ s F j t=σ j0 t0/\((j0=key/\t0=t/\j=s)\/(j0=j/\t0=t/\j≠key)):=by
   intro j t c g;rcases hg j t c g with ⟨rfl,rfl,rfl⟩|⟨rfl,h0,g2⟩|⟨h0,h1,g2⟩
   ·exact Or.inl ⟨rfl,rfl⟩
   ·obtain ⟨t',rfl⟩ : ∃ t',t=t'+1:=⟨t-1,by omega⟩
    exact Or.inr ⟨_,_,_,g2,by rw[BV,F1],Or.inl ⟨rfl,rfl,rfl⟩⟩
   ·exact Or.inr ⟨_,_,_,g2,by rw[CW _ h0],Or.inr ⟨rfl,rfl,h1⟩⟩
  have kt : ∀ j0 t0 c0,c6 M j0 t0=some c0->C8 σ s F s 0≠σ j0 t0:=by
   intro j0 t0 c0 g he;rw[BV,F0]at he;have:=h.sat.old _ _ _ g
   rw[<-he]at this;exact absurd this (Nat.lt_irrefl _)
  intro j t j' t' c c' g g' hj;rcases hold j t c g with ⟨rfl,rfl⟩|⟨j0,t0,c0,a1,a2,a3⟩<;>rcases hold j' t' c' g' with ⟨rfl,rfl⟩|⟨j1,t1,c1,b1,b2,b3⟩
  ·exact ⟨rfl,rfl⟩
  ·rw[b2]at hj;exact absurd hj (kt _ _ _ b1)
  ·rw[a2]at hj;exact absurd hj.symm (kt _ _ _ a1)
  ·rw[a2,b2]at hj
   obtain ⟨q1,q2⟩:=h.sat.inj _ _ _ _ _ _ a1 b1 hj;rcases a3 with ⟨x1,x2,x3⟩|⟨x1,x2,x3⟩<;>rcases b3 with ⟨y1,y2,y3⟩|⟨y1,y2,y3⟩
   ·exact ⟨x3.trans y3.symm,x2.symm.trans (q2.trans y2)⟩
   ·exact absurd (y1.symm.trans (q1.symm.trans x1)) y3
   ·exact absurd (x1.symm.trans (q1.trans y1)) x3
   ·exact ⟨x1.symm.trans (q1.trans y1),x2.symm.trans (q2.trans y2)⟩
 ·intro j t c g hw
  rcases hg j t c g with ⟨rfl,rfl,rfl⟩|⟨rfl,h0,g2⟩|⟨h0,h1,g2⟩
  ·rw[BV,F0];exact h.sat.low _ _ _ r0 rfl
  ·obtain ⟨t',rfl⟩ : ∃ t',t=t'+1:=⟨t-1,by omega⟩
   rw[BV,F1];exact h.sat.low _ _ _ g2 hw
  ·rw[CW _ h0];exact h.sat.low _ _ _ g2 hw
theorem ZB {k:Nat} {v:AV} (h:M4 k v=false):OM k v=false:=by
 cases v with
 | row j t z o n=>simp only[M4]at h;simp only[OM,h,cond_false]
 | ptr j t a b=>simp only[M4]at h;simp only[OM,h,cond_false]
 | _=>rfl
theorem TM {k:Nat} : ∀ {cs:List AV},HO k cs=false->NW k cs=false
 | [],_=>rfl
 | c::r,h=>by
  simp only[HO]at h;cases h1:M4 k c<;>simp only[h1,cond_true,cond_false]at h
  ·simp only[NW,ZB h1,cond_false,TM h]
  ·cases h
theorem gB {k:Nat} : ∀ {es:List (List AV)},IP k es=false->RW k es=false
 | [],_=>rfl
 | c::r,h=>by
  simp only[IP]at h;cases h1:HO k c<;>simp only[h1,cond_true,cond_false]at h
  ·simp only[RW,TM h1,cond_false,gB h]
  ·cases h
theorem TL {k:Nat} {v:AV} (h:OY k v=false):QC k v=false:=by
 cases v with
 | agg cs=>exact TM h
 | fn p f g cs=>exact TM h
 | row a b c d e=>exact ZB (v := .row a b c d e) h
 | ptr a b c d=>exact ZB (v := .ptr a b c d) h
 | _=>rfl
theorem gA {k:Nat} : ∀ {cs:List AV},ST k cs=false->RV k cs=false
 | [],_=>rfl
 | c::r,h=>by
  simp only[ST]at h;cases h1:OY k c<;>simp only[h1,cond_true,cond_false]at h
  ·simp only[RV,TL h1,cond_false,gA h]
  ·cases h
theorem wW {k:Nat} {v:AV} (h:M5 k v=false):PA k v=false:=by
 cases v with
 | j4 cs=>exact gA h
 | agg cs=>exact TL (v := .agg cs) h
 | fn p f g cs=>exact TL (v := .fn p f g cs) h
 | row a b c d e=>exact TL (v := .row a b c d e) h
 | ptr a b c d=>exact TL (v := .ptr a b c d) h
 | _=>rfl
theorem gE {k:Nat} : ∀ {tm:Tm},HP k tm=false->NX k tm=false
 | [],_=>rfl
 | (i,v)::r,h=>by
  simp only[HP]at h;cases h1:M5 k v<;>simp only[h1,cond_true,cond_false]at h
  ·simp only[NX,wW h1,cond_false,gE h]
  ·cases h
theorem gD {k:Nat} : ∀ {M:Mem},GQ k M=false->JU k M=false
 | [],_=>rfl
 | (i,s,c)::r,h=>by
  simp only[GQ]at h;cases h0:Nat.beq k i<;>simp only[h0,cond_true,cond_false]at h
  ·cases h1:GZ k c<;>simp only[h1,cond_true,cond_false]at h
   ·have:ON k c=false:=by
     cases c with
     | bx cs=>exact TM h1
     | bs z es=>exact gB h1
     | _=>rfl
    simp only[JU,this,cond_false,gD h]
   ·cases h
  ·cases h
theorem RX.Yw {M1 M2:Mem} (hm : ∀ k,c8 M1 k=c8 M2 k) (h:RX σ tm M1 st):RX σ tm M2 st:=by
 have hr : ∀ k t,c6 M1 k t=c6 M2 k t:=λ k t=>by simp only[c6,hm]
 refine ⟨h.tm,⟨λ k s c e => ?_,λ k t c e => ?_,λ k t c e => ?_,λ k t k' t' c c' e e' => ?_,λ k t c e hw => ?_⟩⟩
 ·rw[<-hm]at e;exact h.sat.site _ _ _ e
 ·rw[<-hr]at e;exact h.sat.e6 _ _ _ e
 ·rw[<-hr]at e;exact h.sat.old _ _ _ e
 ·rw[<-hr]at e e';exact h.sat.inj _ _ _ _ _ _ e e'
 ·rw[<-hr]at e;exact h.sat.low _ _ _ e hw
theorem RX.He (h:RX σ tm M st) {s q k2 s2 z:Nat} {es:List (List AV)} (e2:c8 M k2=some (s2,.rw z es)) (hk:s≠k2) (hm:GQ s M=false) (ht:HP s tm=false) (hq:EU q=true) :
  ∃ σ',σ' s 0=(q,st.own.g8 q)/\RX σ' tm ((s,q,.mx [some (z,es)])::o5 k2 M) ⟨st.tm,st.own.put q ((st.own q).new ⟨1,[[.row (σ k2 0).1 (σ k2 0).2 z 0 es.length]]⟩)⟩:=by
 have eg:A7.flat (.mx [none]):=by
  intro i x hx;cases i with
  | zero=>simp at hx
  | succ i=>simp at hx
 have h1:=h.da (s:=s) (q:=q) hm ht (.mx [none]) eg rfl (λ_=>hq);have vo:c8 ((s,q,.mx [none])::M) k2=some (s2,.rw z es):=by
  simp only[c8,FM.2 (λ e=>hk e.symm),cond_false];exact e2
 have qa:JU s ((s,q,.mx [none])::M)=false:=by simp only[JU,ON,cond_false,gD hm]
 have h2:=h1.xu (k:=s) (s:=q) (k2:=k2) (i:=0) (rows:=[none]) (c0 := .mx [none]) (by simp [c8]) (Or.inl rfl) vo hk (gE ht) qa (by simp);refine ⟨C8 σ s (λ t=>if t=0+1 then σ k2 0 else (q,st.own.g8 q)),?_,?_⟩
 ·rw[BV];simp
 ·have hσ:(C8 (C8 σ s λ_=>(q,st.own.g8 q)) s λ t=>if t=0+1 then (C8 σ s λ_=>(q,st.own.g8 q)) k2 0 else (C8 σ s λ_=>(q,st.own.g8 q)) s t)=C8 σ s (λ t=>if t=0+1 then σ k2 0 else (q,st.own.g8 q)):=by
   funext j t
   by_cases hj:j=s
   ·subst hj;rw[BV,BV];simp only[BV,CW _ (λ e=>hk e.symm)]
   ·rw[CW _ hj,CW _ hj,CW _ hj]
  rw[hσ]at h2;have hM:o5 k2 ((s,q,A7.mx [none])::M)=(s,q,.mx [none])::o5 k2 M:=by
   simp only[o5,FM.2 (λ e=>hk e.symm),cond_false]
  rw[hM]at h2;have ho : ∀ b b':DZ,(st.own.put q ((st.own q).new b)).put q (((st.own.put q ((st.own q).new b)) q).o9 (st.own.g8 q) (some b'))=st.own.put q ((st.own q).new b'):=by
   intro b b';rw[AH.fp,AH.g9];congr 1;simp only[B8.o9,B8.new,AH.g8,B8.mk.injEq,true_and];funext t'
   by_cases lq:t'=(st.own q).g8<;>simp [lq]
  have hn:(C8 σ s λ_=>(q,st.own.g8 q)) s 0=(q,st.own.g8 q):=by rw[BV]
  have ox:(C8 σ s λ_=>(q,st.own.g8 q)) k2=σ k2:=CW _ (λ e=>hk e.symm);simp only[hn,ox]at h2;rw[ho]at h2;refine RX.Yw (λ k => ?_) h2;simp only[c8];cases Nat.beq k s<;>rfl
theorem RX.Dj (h:RX σ tm M st) {s key k2 ky s' s2 z:Nat} {rows:List (Option (Nat × List (List AV)))} {es:List (List AV)} (e:c8 M key=some (s',.mx rows)) (e2:c8 M k2=some (s2,.rw z es)) (hk:key≠k2) (hm:GQ s M=false) (ht:HP s tm=false) :
  RX (C8 σ s λ t=>match t with|0=>(s',st.own.g8 s')|i+1=>if i=rows.length then σ k2 0 else σ key (i+1)) tm ((s,s',.mx (rows++[some (z,es)]))::o5 key (o5 k2 (o5 ky M)))
   ⟨st.tm,st.own.put s' (((st.own s').o9 (σ key 0).2 none).new ⟨1,B4 σ key 0 rows++[[.row (σ k2 0).1 (σ k2 0).2 z 0 es.length]]⟩)⟩:=by
 have hs:=h.sat.site _ _ _ e;subst hs;have r0:=DS e;have r2:=DS e2;generalize hF:(λ t=>match t with|0=>((σ key 0).1,st.own.g8 (σ key 0).1)|i+1=>if i=rows.length then σ k2 0 else σ key (i+1):Nat->Nat × Nat)=F;have F0:F 0=((σ key 0).1,st.own.g8 (σ key 0).1):=by rw[<-hF]
 have F1 : ∀ i,F (i+1)=if i=rows.length then σ k2 0 else σ key (i+1):=by intro i;rw[<-hF]
 have jg:B4 (C8 σ s F) s 0 (rows++[some (z,es)])=B4 σ key 0 rows++[[.row (σ k2 0).1 (σ k2 0).2 z 0 es.length]]:=by
  apply List.ext_getElem?;intro j;rw[FI,BV];rcases Nat.lt_trichotomy j rows.length with hj|hj|hj
  ·rw[List.getElem?_append_left hj,List.getElem?_append_left (by rw[E4];exact hj),FI]
   congr 1;funext r
   cases r with
   | none=>rfl
   | some x=>simp only[Nat.zero_add];rw[F1,if_neg (by omega)]
  ·subst hj
   rw[List.getElem?_append_right (Nat.le_refl _),List.getElem?_append_right (by rw[E4];exact Nat.le_refl _),E4];simp [F1]
  ·rw[List.getElem?_eq_none (by simp;omega),List.getElem?_eq_none (by simp [E4];omega)];rfl
 have xf : ∀ j t c',c6 M j t=some c'->GZ s c'=false/\j≠s:=by
  intro j t c' g;obtain ⟨s1,c0,g1,g2,g3⟩:=H0 g;obtain ⟨g4,g5⟩:=N6 hm _ _ _ g1;refine ⟨?_,g4⟩;cases t with
  | zero=>rw[g2 rfl];exact g5
  | succ i=>obtain ⟨rows,z,es,_,_,rfl⟩:=g3 i rfl;rfl
 have hg : ∀ j t c,c6 ((s,(σ key 0).1,.mx (rows++[some (z,es)]))::o5 key (o5 k2 (o5 ky M))) j t=some c ->
   (j=s/\t=0/\c = .mx (rows++[some (z,es)]))\/(j=s/\t=rows.length+1/\c = .rw z es)\/(j=s/\t≠0/\t≠rows.length+1/\c6 M key t=some c)\/(j≠s/\j≠key/\j≠k2/\c6 M j t=some c):=by
  intro j t c g;by_cases hj:j=s
  ·subst hj
   cases t with
   | zero=>rw[QV]at g;exact Or.inl ⟨rfl,rfl,(Option.some.inj g).symm⟩
   | succ t =>
    simp only[c6,c8,Nat.beq_refl,cond_true]at g;rcases Nat.lt_trichotomy t rows.length with lq|lq|lq
    ·rw[List.getElem?_append_left lq]at g
     refine Or.inr (Or.inr (Or.inl ⟨rfl,by omega,by omega,?_⟩));simp only[c6,e];exact g
    ·subst lq
     rw[List.getElem?_append_right (Nat.le_refl _),Nat.sub_self]at g;exact Or.inr (Or.inl ⟨rfl,rfl,(Option.some.inj g).symm⟩)
    ·rw[List.getElem?_eq_none (by simp;omega)]at g;cases g
  ·rw[N5 hj]at g
   obtain ⟨g1,g2⟩:=HM g;obtain ⟨g3,g4⟩:=HM g2;obtain ⟨_,g5⟩:=HM g4;exact Or.inr (Or.inr (Or.inr ⟨hj,g1,g3,g5⟩))
 refine ⟨λ j => ?_,⟨?_,?_,?_,?_,?_⟩⟩
 ·rw[YD (SU ht j)];exact h.tm j
 ·intro j s1 c g
  simp only[c8]at g;cases hb:Nat.beq j s<;>simp only[hb,cond_true,cond_false]at g
  ·rw[CW _ (FM.1 hb)];exact h.sat.site _ _ _ (KS (KS (KS g).2).2).2
  ·simp only[Option.some.injEq,Prod.mk.injEq]at g
   rw[BJ.1 hb,BV,F0,<-g.1]
 ·intro j t c g
  rcases hg j t c g with ⟨rfl,rfl,rfl⟩|⟨rfl,rfl,rfl⟩|⟨rfl,h0,h1,g2⟩|⟨h0,h1,h2,g2⟩
  ·rw[BV,F0]
   simp only[A7.e6,jg];simp [AH.g9,B8.new,AH.g8,B8.o9]
  ·rw[BV,F1,if_pos rfl]
   exact (QR (λ he=>hk (h.sat.inj _ _ _ _ _ _ r2 r0 he).1.symm) (h.sat.old _ _ _ r2)).trans (h.sat.e6 _ _ _ r2)
  ·obtain ⟨t',rfl⟩ : ∃ t',t=t'+1:=⟨t-1,by omega⟩
   rw[BV,F1,if_neg (by omega)];have hb:c.e6 (C8 σ j F) j=c.e6 σ key:=by
    obtain ⟨_,_,_,_,g3⟩:=H0 g2;obtain ⟨_,_,_,_,_,rfl⟩:=g3 t' rfl;rfl
   rw[hb];exact (QR (λ he=>absurd (h.sat.inj _ _ _ _ _ _ g2 r0 he).2 (by omega)) (h.sat.old _ _ _ g2)).trans (h.sat.e6 _ _ _ g2)
  ·rw[CW _ h0,V8 (xf _ _ _ g2).1 h0]
   exact (QR (λ he=>h1 (h.sat.inj _ _ _ _ _ _ g2 r0 he).1) (h.sat.old _ _ _ g2)).trans (h.sat.e6 _ _ _ g2)
 ·intro j t c g
  rcases hg j t c g with ⟨rfl,rfl,rfl⟩|⟨rfl,rfl,rfl⟩|⟨rfl,h0,h1,g2⟩|⟨h0,h1,h2,g2⟩
  ·rw[BV,F0]
   simp [AH.g9,B8.new,AH.g8,B8.o9]
  ·rw[BV,F1,if_pos rfl]
   exact Nat.lt_of_lt_of_le (h.sat.old _ _ _ r2) (QS _)
  ·obtain ⟨t',rfl⟩ : ∃ t',t=t'+1:=⟨t-1,by omega⟩
   rw[BV,F1,if_neg (by omega)];exact Nat.lt_of_lt_of_le (h.sat.old _ _ _ g2) (QS _)
  ·rw[CW _ h0]
   exact Nat.lt_of_lt_of_le (h.sat.old _ _ _ g2) (QS _)
 ·have hold : ∀ j t c,c6 ((s,(σ key 0).1,.mx (rows++[some (z,es)]))::o5 key (o5 k2 (o5 ky M))) j t=some c->(j=s/\t=0) \/ ∃ j0 t0 c0,c6 M j0 t0=some c0/\C8 σ s F j t=σ j0 t0/\((j0=k2/\t0=0/\j=s/\t=rows.length+1)\/(j0=key/\t0=t/\j=s)\/(j0=j/\t0=t/\j≠key/\j≠k2)):=by
   intro j t c g;rcases hg j t c g with ⟨rfl,rfl,rfl⟩|⟨rfl,rfl,rfl⟩|⟨rfl,h0,h1,g2⟩|⟨h0,h1,h2,g2⟩
   ·exact Or.inl ⟨rfl,rfl⟩
   ·exact Or.inr ⟨_,_,_,r2,by rw[BV,F1,if_pos rfl],Or.inl ⟨rfl,rfl,rfl,rfl⟩⟩
   ·obtain ⟨t',rfl⟩ : ∃ t',t=t'+1:=⟨t-1,by omega⟩
    exact Or.inr ⟨_,_,_,g2,by rw[BV,F1,if_neg (by omega)],Or.inr (Or.inl ⟨rfl,rfl,rfl⟩)⟩
   ·exact Or.inr ⟨_,_,_,g2,by rw[CW _ h0],Or.inr (Or.inr ⟨rfl,rfl,h1,h2⟩)⟩
  have kt : ∀ j0 t0 c0,c6 M j0 t0=some c0->C8 σ s F s 0≠σ j0 t0:=by
   intro j0 t0 c0 g he;rw[BV,F0]at he;have:=h.sat.old _ _ _ g
   rw[<-he]at this;exact absurd this (Nat.lt_irrefl _)
  intro j t j' t' c c' g g' hj;rcases hold j t c g with ⟨rfl,rfl⟩|⟨j0,t0,c0,a1,a2,a3⟩<;>rcases hold j' t' c' g' with ⟨rfl,rfl⟩|⟨j1,t1,c1,b1,b2,b3⟩
  ·exact ⟨rfl,rfl⟩
  ·rw[b2]at hj;exact absurd hj (kt _ _ _ b1)
  ·rw[a2]at hj;exact absurd hj.symm (kt _ _ _ a1)
  ·rw[a2,b2]at hj
   obtain ⟨q1,q2⟩:=h.sat.inj _ _ _ _ _ _ a1 b1 hj;rcases a3 with ⟨x1,x2,x3,x4⟩|⟨x1,x2,x3⟩|⟨x1,x2,x3,x4⟩<;>rcases b3 with ⟨y1,y2,y3,y4⟩|⟨y1,y2,y3⟩|⟨y1,y2,y3,y4⟩
   ·exact ⟨x3.trans y3.symm,x4.trans y4.symm⟩
   ·exact absurd (y1.symm.trans (q1.symm.trans x1)) hk
   ·exact absurd (y1.symm.trans (q1.symm.trans x1)) y4
   ·exact absurd (x1.symm.trans (q1.trans y1)) hk
   ·exact ⟨x3.trans y3.symm,x2.symm.trans (q2.trans y2)⟩
   ·exact absurd (y1.symm.trans (q1.symm.trans x1)) y3
   ·exact absurd (x1.symm.trans (q1.trans y1)) x4
   ·exact absurd (x1.symm.trans (q1.trans y1)) x3
   ·exact ⟨x1.symm.trans (q1.trans y1),x2.symm.trans (q2.trans y2)⟩
 ·intro j t c g hw
  rcases hg j t c g with ⟨rfl,rfl,rfl⟩|⟨rfl,rfl,rfl⟩|⟨rfl,h0,h1,g2⟩|⟨h0,h1,h2,g2⟩
  ·rw[BV,F0];exact h.sat.low _ _ _ r0 rfl
  ·rw[BV,F1,if_pos rfl];exact h.sat.low _ _ _ r2 rfl
  ·obtain ⟨t',rfl⟩ : ∃ t',t=t'+1:=⟨t-1,by omega⟩
   rw[BV,F1,if_neg (by omega)];exact h.sat.low _ _ _ g2 hw
  ·rw[CW _ h0];exact h.sat.low _ _ _ g2 hw
theorem HE (k:IntKind) (n:Int):BC σ (.int k n) = .int k n:=rfl
theorem G0 (b:Bool):BC σ (.bool b) = .bool b:=rfl
theorem G1 (l:Bool) (es:List (List AV)):BC σ (.sl l es) = .sl l es:=rfl
theorem DC (k t z o n:Nat):BC σ (.row k t z o n) = .row (σ k t).1 (σ k t).2 z o n:=rfl
theorem EC (k t i j:Nat):BC σ (.ptr k t i j) = .ptr (σ k t).1 (σ k t).2 i j:=rfl
theorem IQ (cs:List AV):BC σ (.s8 cs) = .s8 cs:=rfl
theorem FJ:BC σ .nil = .nil:=rfl
theorem IB (cs:List AV):BC σ (.agg cs) = .agg (cs.map (A8 σ)):=rfl
theorem Sl (v:Value):BC σ (.bh v) = .bh v:=rfl
theorem X6 (p:Bool) (f g:Nat) (cs:List AV):BC σ (.fn p f g cs) = .fn p f g (cs.map (A8 σ)):=rfl
theorem IC (cs:List AV):BC σ (.j4 cs) = .j4 (cs.map (BT σ)):=rfl
def B7.res (own:AH):B7->AV × AH
 | .val v=>(v,own)
 | .new s b f=>(f (own.g8 s),own.put s ((own s).new b))
 | .tz s b f=>(f (own.g8 s),own.put s ((own s).new b))
 | .cr v o=>(v,o)
 | .o9 s x=>(.j4 [],own.put s x)
 | .nu s x v=>(v,own.put s x)
theorem Y5 (st:St) (d:Option Nat) (E:B7):st.app d E=⟨(st.dst d (E.res st.own).1).tm,(E.res st.own).2⟩:=by
 cases E<;>cases d<;>rfl
def BU (L:Lib) (tm:Tm) (c5:List Nat) (K:AV->Mem->Prop) (op:DT) (st:St):Prop :=
 ∃ E σ' v M',(∀ c,e7 (C9 L c) c5 st.ev st.own op=some E)/\K v M'/\(E.res st.own).1=BC σ' v/\RX σ' tm M' ⟨st.tm,(E.res st.own).2⟩
theorem BU.val {L:Lib} {c5:List Nat} {K:AV->Mem->Prop} {op:DT} (h:RX σ tm M st) (v:AV) (he : ∀ c,e7 (C9 L c) c5 st.ev st.own op=some (.val (BC σ v))) (hk:K v M):BU L tm c5 K op st :=
 ⟨_,σ,v,M,he,hk,rfl,h⟩
variable {L:Lib} {c5:List Nat} {K:AV->Mem->Prop}
theorem vP {x:AP} (hr:RX σ tm M st) (h:XE L tm M c5 K (.a9 x)):BU L tm c5 K (.a9 x) st:=by
 simp only[XE]at h;obtain ⟨h1,h2⟩:=W4 h;exact BU.val hr _ (λ C=>by simp only[e7,hr.ev rfl h1]) h2
theorem vV {s z:Nat} (hr:RX σ tm M st) (h:XE L tm M c5 K (.ah s z)):BU L tm c5 K (.ah s z) st:=by
 simp only[XE]at h;cases dw:EU s<;>simp only[dw,cond_true,cond_false]at h;obtain ⟨k,h1,h2,h3⟩:=GU h;refine ⟨_,_,_,_,λ C=>rfl,h3,?_,hr.da h1 h2 (.rw z []) trivial rfl (λ_=>dw)⟩;simp only[B7.res,DC,EC,BV]
theorem vQ {c a b:AP} (hr:RX σ tm M st) (h:XE L tm M c5 K (.pick c a b)):BU L tm c5 K (.pick c a b) st:=by
 simp only[XE]at h;split at h
 ·rename_i e
  obtain ⟨h1,h2⟩:=W4 h;exact BU.val hr _ (λ C=>by simp only[e7,hr.ev e (by intro e;cases e),hr.ev rfl h1,HE,G0,G1,DC,EC,IQ,FJ,IB,IC]) h2
 ·rename_i e
  obtain ⟨h1,h2⟩:=W4 h;exact BU.val hr _ (λ C=>by simp only[e7,hr.ev e (by intro e;cases e),hr.ev rfl h1,HE,G0,G1,DC,EC,IQ,FJ,IB,IC]) h2
 ·exact h.elim
theorem Rp {op:BinOp} {k k':IntKind} {a b:Int} {v:AV} (h:DJ op k a k' b=some v):BC σ v=v:=by
 cases op<;>simp only[DJ]at h<;>split at h<;>first|(obtain rfl:=Option.some.inj h;rfl)|cases h
theorem Qp {k k':IntKind} (h:kq k k'=true):k=k':=by simpa [kq] using h
theorem wL {op:BinOp} {k k':IntKind} {a b:Int} {K:AV->Prop} (h:Y6 op k a k' b K) : ∃ v,DJ op k a k' b=some v/\K v:=by
 have key : ∀ (p q:Prop) [Decidable p] (A B:Prop) (c:Bool),(¬ p->q)->AF p q A B->(p/\A)\/(¬ p/\B):=by
  intro p q _ A B _ hq hc;by_cases hp:p
  ·exact Or.inl ⟨hp,hc.1 hp⟩
  ·exact Or.inr ⟨hp,hc.2 (hq hp)⟩
 cases op;all_goals try (exact h)
 all_goals (
  simp only[Y6]at h;cases hk:kq k k'<;>simp only[hk,cond_true,cond_false]at h;obtain rfl:=Qp hk;simp only[DJ,if_true])
 ·rcases key (a=b) _ _ _ true (λ e=>e) h with ⟨h1,h2⟩|⟨h1,h2⟩
  ·exact ⟨_,rfl,by rw[show (a == b)=true by simpa using h1];exact h2⟩
  ·exact ⟨_,rfl,by rw[show (a == b)=false by simpa using h1];exact h2⟩
 ·rcases key (a≠b) _ _ _ true (λ e=>by omega) h with ⟨h1,h2⟩|⟨h1,h2⟩
  ·exact ⟨_,rfl,by rw[show (a != b)=true by simpa using h1];exact h2⟩
  ·exact ⟨_,rfl,by rw[show (a != b)=false by simpa using h1];exact h2⟩
 ·rcases key (a<b) _ _ _ true (λ e=>by omega) h with ⟨h1,h2⟩|⟨h1,h2⟩
  ·exact ⟨_,rfl,by simpa [h1] using h2⟩
  ·exact ⟨_,rfl,by simpa [h1] using h2⟩
 ·rcases key (a<=b) _ _ _ true (λ e=>by omega) h with ⟨h1,h2⟩|⟨h1,h2⟩
  ·exact ⟨_,rfl,by simpa [h1] using h2⟩
  ·exact ⟨_,rfl,by simpa [h1] using h2⟩
 ·rcases key (b<a) _ _ _ true (λ e=>by omega) h with ⟨h1,h2⟩|⟨h1,h2⟩
  ·exact ⟨_,rfl,by simpa [h1] using h2⟩
  ·exact ⟨_,rfl,by simpa [h1] using h2⟩
 ·rcases key (b<=a) _ _ _ true (λ e=>by omega) h with ⟨h1,h2⟩|⟨h1,h2⟩
  ·exact ⟨_,rfl,by simpa [h1] using h2⟩
  ·exact ⟨_,rfl,by simpa [h1] using h2⟩
theorem uZ {op:BinOp} {x y:AP} (hr:RX σ tm M st) (h:XE L tm M c5 K (.bin op x y)):BU L tm c5 K (.bin op x y) st:=by
 simp only[XE]at h;split at h
 ·rename_i k a k' b e1 e2
  obtain ⟨v,hv,hk⟩:=wL h;exact BU.val hr v (λ C=>by
   simp only[e7,hr.ev e1 (by intro e;cases e),hr.ev e2 (by intro e;cases e),HE,G0,G1,DC,EC,IQ,FJ,IB,IC,hv,Option.map_some];exact congrArg some (congrArg B7.val (Rp (σ:=σ) hv).symm)) hk
 ·exact h.elim
theorem uY {ne:Bool} {x y:AP} (hr:RX σ tm M st) (h:XE L tm M c5 K (.beq ne x y)):BU L tm c5 K (.beq ne x y) st:=by
 simp only[XE]at h;split at h
 ·rename_i a b e1 e2
  rw[PG]at h;exact BU.val hr _ (λ C=>by
   simp only[e7,hr.ev e1 (by intro e;cases e),hr.ev e2 (by intro e;cases e),HE,G0,G1,DC,EC,IQ,FJ,IB,IC];cases ne<;>rfl) h
 ·exact h.elim
theorem vU {op:UnOp} {x:AP} (hr:RX σ tm M st) (h:XE L tm M c5 K (.un op x)):BU L tm c5 K (.un op x) st:=by
 simp only[XE]at h;split at h
 ·rename_i k n e1
  obtain ⟨v,hv,hk⟩:=h;refine BU.val hr v (λ C => ?_) hk;simp only[e7,hr.ev e1 (by intro e;cases e),HE,G0,G1,DC,EC,IQ,FJ,IB,IC,hv,Option.map_some];cases op<;>simp only[PX,Option.some.injEq,reduceCtorEq]at hv<;>subst hv<;>rfl
 ·rename_i b e1
  split at h
  ·rw[PG]at h
   exact BU.val hr _ (λ C=>by simp only[e7,hr.ev e1 (by intro e;cases e),HE,G0,G1,DC,EC,IQ,FJ,IB,IC,PX,Option.map_some]) h
  ·exact h.elim
 ·exact h.elim
theorem vD {k:IntKind} {x:AP} (hr:RX σ tm M st) (h:XE L tm M c5 K (.conv k x)):BU L tm c5 K (.conv k x) st:=by
 simp only[XE]at h;split at h
 ·rename_i k' n e1
  exact BU.val hr _ (λ C=>by simp only[e7,hr.ev e1 (by intro e;cases e),HE,G0,G1,DC,EC,IQ,FJ,IB,IC]) h.h
 ·exact h.elim
theorem vA {s:Nat} {x:AP} (hr:RX σ tm M st) (h:XE L tm M c5 K (.box s x)):BU L tm c5 K (.box s x) st:=by
 simp only[XE]at h;obtain ⟨h0,cs,hc,h⟩:=W3 h;obtain ⟨k,h1,h2,h3⟩:=GU h;refine ⟨.new s (A7.e6 σ k (.bx cs)) (λ t => .ptr s t 0 0),_,_,_,λ C => ?_,h3,?_,hr.da h1 h2 (.bx cs) trivial (pL (kT h2 x) hc) (λ h=>nomatch h)⟩
 ·simp only[e7,hr.ev rfl h0,NU hc,List.length_map,A7.e6]
 ·simp only[B7.res,DC,EC,BV]
theorem uT {s:Nat} {z:List AV} (hr:RX σ tm M st) (h:XE L tm M c5 K (.alloc s z)):BU L tm c5 K (.alloc s z) st:=by
 simp only[XE]at h;cases hd:D7 z<;>simp only[hd,cond_true,cond_false]at h;obtain ⟨k,h1,h2,h3⟩:=GU h;refine ⟨.new s (A7.e6 σ k (.bx z)) (λ t => .ptr s t 0 0),_,_,_,λ C => ?_,h3,?_,hr.da h1 h2 (.bx z) trivial (ZJ hd) (λ h=>nomatch h)⟩
 ·simp only[e7,A7.e6,II hd]
 ·simp only[B7.res,DC,EC,BV]
theorem XU {cs ds:List AV} {off n:Nat} (h:part cs off n=some ds):part (cs.map (A8 σ)) off n=some (ds.map (A8 σ)):=by
 simp only[part]at h ⊢;split at h
 ·rename_i hl
  rw[if_pos (by simpa using hl)];obtain rfl:=Option.some.inj h;rw[List.map_take,List.map_drop]
 ·cases h
theorem kV {v:AV} {K:AV->Prop} (h:fF v K):v ≠ .any/\BC σ v=A8 σ v/\K v:=by
 cases v<;>simp only[fF]at h<;>first|exact h.elim|exact ⟨(by intro e;cases e),rfl,h⟩
theorem PM (σ:FU) {agg:Bool} {ds:List AV} {K:AV->Prop} (h:nr agg ds K) : ∃ v,JY agg (ds.map (A8 σ))=some (BC σ v)/\K v:=by
 cases agg
 ·simp only[nr]at h
  split at h
  ·rename_i c
   obtain ⟨_,h1,h2⟩:=kV (σ:=σ) h;exact ⟨c,by rw[h1];rfl,h2⟩
  ·exact h.elim
 ·exact ⟨.agg ds,rfl,h⟩
theorem qM {cs vs:List AV} {j:Nat}:(splice cs j vs).map (A8 σ)=splice (cs.map (A8 σ)) j (vs.map (A8 σ)):=by
 simp only[splice,List.map_append,List.map_take,List.map_drop,List.length_map]
theorem lH (hr:RX σ tm M st) : ∀ {ps:List (Nat × Nat × AP)} {cells:List AV} {K:List AV->Prop},aJ tm ps cells K -> ∃ cs,fill (cells.map (A8 σ)) (ps.map λ p=>(p.1,p.2.1,st.ev p.2.2))=some (cs.map (A8 σ))/\K cs
 | [],cells,K,h=>⟨cells,rfl,h⟩
 | p::r,cells,K,h=>by
  obtain ⟨h0,vs,hc,h⟩:=W3 (show fC (ex tm p.2.2) λ vs=>bif Nat.beq vs.length p.2.1 then bif Nat.ble (p.1+p.2.1) cells.length then fL (splice cells p.1 vs) λ cells=>aJ tm r cells K else False else False from h);cases hz:Nat.beq vs.length p.2.1<;>simp only[hz,cond_true,cond_false]at h;have hl:Nat.ble (p.1+p.2.1) cells.length=true:=by
   cases hl:Nat.ble (p.1+p.2.1) cells.length
   ·rw[hl]at h;exact h.elim
   ·rfl
  rw[hl]at h;simp only[cond_true,G8]at h;obtain ⟨cs,h1,h2⟩:=lH hr h;refine ⟨cs,?_,h2⟩;simp only[List.map_cons,fill,hr.ev rfl h0,NU hc,List.length_map];rw[if_pos ⟨BJ.1 hz,Nat.le_of_ble_eq_true hl⟩,<-qM];exact h1
theorem vC {z:List AV} {ps:List (Nat × Nat × AP)} (hr:RX σ tm M st) (h:XE L tm M c5 K (.build z ps)):BU L tm c5 K (.build z ps) st:=by
 simp only[XE]at h;cases hd:D7 z<;>simp only[hd,cond_true,cond_false]at h;obtain ⟨cs,h1,h2⟩:=lH hr h;refine BU.val hr (.agg cs) (λ C => ?_) h2;rw[II hd]at h1;simp only[e7,h1];rfl
theorem kS : ∀ l:List AP,PF tm l=l.map (ex tm)
 | []=>rfl
 | x::r=>by rw[PF,kS r];rfl
theorem iA : ∀ {es:List (List AV)},TU es=true -> ∀ e∈es,D7 e=true
 | e0::r,h,e,he=>by
  simp only[TU]at h;cases h1:D7 e0<;>simp only[h1,cond_true,cond_false]at h
  ·cases h
  ·rcases List.mem_cons.1 he with rfl|he
   ·exact h1
   ·exact iA h e he
theorem yO {es:List (List AV)} (h : ∀ e∈es,D7 e=true):(es.map λ cs=>cs.map (A8 σ))=es:=by
 conv=>rhs;rw[<-List.map_id es]
 exact List.map_congr_left λ e he=>II (h e he)
theorem bG {es:List (List AV)} {K:Nat->Prop} (h:UJ es K):K es.length:=by
 unfold UJ at h;split at h<;>exact h
theorem fW (hr:RX σ tm M st) {z:Nat} : ∀ {l:List AP} {K:List (List AV)->Prop},Y9 tm z l K -> ∃ es,l.mapM (λ x=>cellsOf (st.ev x))=some (es.map λ cs=>cs.map (A8 σ))/\(∀ e∈es,e.length=z)/\(∀ k,HP k tm=false->IP k es=false)/\K es
 | [],K,h=>⟨[],rfl,(λ e he=>by cases he),λ_ _=>rfl,h⟩
 | x::r,K,h=>by
  obtain ⟨h0,cs,hc,h⟩:=W3 (show fC (ex tm x) λ cs=>bif Nat.beq cs.length z then Y9 tm z r λ es=>K (cs::es) else False from h);cases hz:Nat.beq cs.length z<;>simp only[hz,cond_true,cond_false]at h;obtain ⟨es,h1,h2,h4,h3⟩:=fW hr h;refine ⟨cs::es,?_,λ e he => ?_,λ k hk => ?_,h3⟩
  ·rw[List.mapM_cons,h1,hr.ev rfl h0,NU hc];rfl
  ·rcases List.mem_cons.1 he with rfl|he
   ·exact BJ.1 hz
   ·exact h2 e he
  ·simp only[IP,pL (kT hk x) hc,cond_false,h4 k hk]
theorem Ws (hr:RX σ tm M st) {xs:List AP} (h : ∀ v∈PF tm xs,v ≠ .any):xs.map st.ev=(PF tm xs).map (BC σ):=by
 rw[kS]at h ⊢;rw[List.map_map];exact List.map_congr_left λ x hx=>hr.ev rfl (h _ (List.mem_map_of_mem hx))
theorem vB {s z:Nat} {ps:List AP} (hr:RX σ tm M st) (h:XE L tm M c5 K (.c4 s z ps)):BU L tm c5 K (.c4 s z ps) st:=by
 simp only[XE]at h;cases dw:EU s<;>simp only[dw,cond_true,cond_false]at h;obtain ⟨es,g1,g2,g3,h⟩:=fW hr h;obtain ⟨k,h1,h2,h3⟩:=GU (bG h);have key : ∀ c:A7,c.flat->GZ k c=false->c.e6 σ k=⟨z,es.map λ cs=>cs.map (A8 σ)⟩->K (.row k 0 z 0 es.length) ((k,s,c)::M)->BU L tm c5 K (.c4 s z ps) st:=by
  intro c hf hc hb hk;refine ⟨.new s (c.e6 σ k) (λ t => .row s t z 0 es.length),_,_,_,λ C => ?_,hk,?_,hr.da h1 h2 c hf hc (λ_=>dw)⟩
  ·simp only[e7,g1,hb]
   rw[if_pos (λ e he=>by obtain ⟨e',ga,rfl⟩:=List.mem_map.1 he;simpa using g2 e' ga)];simp only[List.length_map]
  ·simp only[B7.res,DC,BV]
 cases hd:TU es<;>simp only[hd,cond_true,cond_false]at h3
 ·exact key (.bs z es) trivial (g3 k h2) rfl h3
 ·exact key (.rw z es) trivial rfl (by simp only[A7.e6];rw[yO (iA hd)]) h3
theorem vF {x:AP} {off:Nat} (hr:RX σ tm M st) (h:XE L tm M c5 K (.a5 x off)):BU L tm c5 K (.a5 x off) st:=by
 simp only[XE]at h;split at h
 ·rename_i key t i j e
  exact BU.val hr _ (λ C=>by simp only[e7,hr.ev e (by intro e;cases e),HE,G0,G1,DC,EC,IQ,FJ,IB,IC]) h
 ·rename_i cs e
  rw[G8]at h;exact BU.val hr _ (λ C=>by simp only[e7,hr.ev e (by intro e;cases e),HE,G0,G1,DC,EC,IQ,FJ,IB,IC]) h
 ·exact h.elim
theorem vG {x:AP} {off n:Nat} {agg:Bool} (hr:RX σ tm M st) (h:XE L tm M c5 K (.lg x off n agg)):BU L tm c5 K (.lg x off n agg) st:=by
 simp only[XE]at h;split at h
 ·rename_i cs e
  split at h
  ·rename_i ds hp
   rw[G8]at h;obtain ⟨v,h1,h2⟩:=PM σ h;exact BU.val hr v (λ C=>by simp only[e7,hr.ev e (by intro e;cases e),IB,XU hp,h1,Option.map_some]) h2
  ·exact h.elim
 ·exact h.elim
theorem vI {arr:Option Nat} {z:Nat} {x i:AP} (hr:RX σ tm M st) (h:XE L tm M c5 K (.a7 arr z x i)):BU L tm c5 K (.a7 arr z x i) st:=by
 simp only[XE]at h;split at h
 ·rename_i kd n e1
  split at h
  ·rename_i len key t i' j e2
   obtain ⟨h1,h2⟩:=h;exact BU.val hr _ (λ C=>by simp only[e7,hr.ev e1 (by intro e;cases e),hr.ev e2 (by intro e;cases e),HE,G0,G1,DC,EC,IQ,FJ,IB,IC];rw[if_pos h1]) h2
  ·rename_i len cs e2
   obtain ⟨h1,h2⟩:=h;rw[G8]at h2;exact BU.val hr _ (λ C=>by simp only[e7,hr.ev e1 (by intro e;cases e),hr.ev e2 (by intro e;cases e),HE,G0,G1,DC,EC,IQ,FJ,IB,IC];rw[if_pos h1]) h2
  ·rename_i key t z' off len e2
   cases hz:Nat.beq z' z<;>simp only[hz,cond_true,cond_false]at h;obtain ⟨h1,h2⟩:=h;exact BU.val hr _ (λ C=>by simp only[e7,hr.ev e1 (by intro e;cases e),hr.ev e2 (by intro e;cases e),HE,G0,G1,DC,EC,IQ,FJ,IB,IC];rw[if_pos ⟨h1.1,h1.2,BJ.1 hz⟩]) h2
  ·rename_i q es e2
   obtain ⟨h1,cs,h2,h3,h4⟩:=h;exact BU.val hr _ (λ C=>by simp only[e7,hr.ev e1 (by intro e;cases e),hr.ev e2 (by intro e;cases e),HE,G0,G1,DC,EC,IQ,FJ,IB,IC,h2];rw[if_pos h1,if_pos h3]) h4
  ·exact h.elim
 ·exact h.elim
theorem SN {s:Nat} {own:AH} : ∀ {c5:List Nat},PN s c5=true->own.m7 c5 s=own s
 | [],_=>rfl
 | b::r,h=>by
  have hm:OV s (b::r)=false:=by simpa [PN] using h
  have : ∀ l:List Nat,OV s l=false->own.m7 l s=own s:=by
   intro l;induction l with
   | nil=>intro _;rfl
   | cons b r ih =>
    intro h;simp only[OV]at h;cases hb:Nat.beq s b<;>simp only[hb,cond_true,cond_false]at h
    ·simp only[AH.m7]
     rw[if_neg (FM.1 hb)];exact ih h
    ·cases h
  exact this _ hm
theorem bY {s:Nat} {own:AH} (hs:EU s=true) : ∀ {c5:List Nat},QX c5=true->own.m7 c5 s=own s
 | [],_=>rfl
 | b::r,h=>by
  simp only[QX]at h;cases hb:EU b<;>simp only[hb,cond_true,cond_false]at h
  ·have m8:s≠b:=λ e=>by rw[e,hb]at hs;cases hs
   show (if s=b then _ else own.m7 r s)=own s;rw[if_neg m8];exact bY hs h
  ·cases h
theorem vK {agg:Bool} {n:Nat} {x:AP} (hr:RX σ tm M st) (h:XE L tm M c5 K (.ld agg n x)):BU L tm c5 K (.ld agg n x) st:=by
 simp only[XE]at h;split at h
 ·rename_i key t i j e
  split at h
  ·rename_i s c hm
   have hs:=hr.sat.site _ _ _ hm;split at h
   ·cases hb:PN s c5<;>simp only[hb,cond_true,cond_false]at h
    have y6:=hr.sat.e6 _ _ _ (DS hm);rw[hs]at y6;split at h
    ·rename_i cs
     cases hi:Nat.beq i 0<;>simp only[hi,cond_true,cond_false]at h;obtain rfl:=BJ.1 hi;split at h
     ·rename_i ds hp
      rw[G8]at h;obtain ⟨v,h1,h2⟩:=PM σ h;exact BU.val hr v (λ C=>by
       simp only[e7,hr.ev e (by intro e;cases e),EC,AH.nc,AH.get,hs];rw[SN hb,y6];simp only[A7.e6,List.getElem?_cons_zero,XU hp,h1,Option.map_some]) h2
     ·exact h.elim
    ·rename_i z es
     obtain ⟨cs,ds,g1,g2,h⟩:=h;rw[G8]at h;cases hd:D7 ds<;>simp only[hd,cond_true,cond_false]at h;obtain ⟨v,h1,h2⟩:=PM σ h;rw[II hd]at h1;exact BU.val hr v (λ C=>by
      simp only[e7,hr.ev e (by intro e;cases e),EC,AH.nc,AH.get,hs];rw[SN hb,y6];simp only[A7.e6,g1,g2,h1,Option.map_some]) h2
    ·rename_i z es
     split at h
     ·rename_i cs g1
      split at h
      ·rename_i ds hp
       rw[G8]at h;obtain ⟨v,h1,h2⟩:=PM σ h;exact BU.val hr v (λ C=>by
        simp only[e7,hr.ev e (by intro e;cases e),EC,AH.nc,AH.get,hs];rw[SN hb,y6];simp only[A7.e6,List.getElem?_map,g1,Option.map_some,XU hp,h1]) h2
      ·exact h.elim
     ·exact h.elim
    ·rename_i rows
     cases hj:Nat.beq j 0<;>simp only[hj,cond_true,cond_false]at h;cases hn:Nat.beq n 1<;>simp only[hn,cond_true,cond_false]at h;obtain rfl:=BJ.1 hj;obtain rfl:=BJ.1 hn;obtain ⟨r,g1,h⟩:=h;have fin : ∀ c:AV,(B4 σ key 0 rows)[i]? = some [A8 σ c]->nr agg [c] (λ v=>K v M)->BU L tm c5 K (.ld agg 1 x) st:=by
      intro c hc h;obtain ⟨v,h1,h2⟩:=PM σ h;have hp:part [A8 σ c] 0 1=some [A8 σ c]:=by simp [part]
      exact BU.val hr v (λ C=>by
       simp only[e7,hr.ev e (by intro e;cases e),EC,AH.nc,AH.get,hs];rw[SN hb,y6];simp only[A7.e6,hc,hp];simp only[List.map_cons,List.map_nil]at h1;simp only[h1,Option.map_some]) h2
     split at h
     ·rename_i z es
      exact fin _ (by rw[FI,g1];simp [A8]) h
     ·exact fin _ (by rw[FI,g1];simp [A8]) h
    ·exact h.elim
    ·exact h.elim
   ·rename_i i'
    split at h
    ·rename_i rows
     obtain ⟨z,es,g0,cs,ds,g1,g2,h⟩:=h;rw[G8]at h;cases hd:D7 ds<;>simp only[hd,cond_true,cond_false]at h;obtain ⟨v,h1,h2⟩:=PM σ h;rw[II hd]at h1;have y6:=hr.sat.e6 key (i'+1) (.rw z es) (by simp [c6,hm,g0]);exact BU.val hr v (λ C=>by
      simp only[e7,hr.ev e (by intro e;cases e),EC,AH.nc,AH.get,AH.m7];rw[y6];simp only[A7.e6,g1,g2,h1,Option.map_some]) h2
    ·rename_i rows b r
     cases hb:QX (b::r)<;>simp only[hb,cond_true,cond_false]at h;obtain ⟨z,es,g0,cs,ds,g1,g2,h⟩:=h;rw[G8]at h;cases hd:D7 ds<;>simp only[hd,cond_true,cond_false]at h;obtain ⟨v,h1,h2⟩:=PM σ h;rw[II hd]at h1;have g':c6 M key (i'+1)=some (.rw z es):=by simp [c6,hm,g0]
     have y6:=hr.sat.e6 key (i'+1) (.rw z es) g';have dw:=hr.sat.low key (i'+1) _ g' rfl;exact BU.val hr v (λ C=>by
      simp only[e7,hr.ev e (by intro e;cases e),EC,AH.nc,AH.get];rw[bY dw hb,y6];simp only[A7.e6,g1,g2,h1,Option.map_some]) h2
    ·exact h.elim
  ·exact h.elim
 ·rename_i cs e
  split at h
  ·rename_i ds hp
   rw[G8]at h;cases hd:D7 ds<;>simp only[hd,cond_true,cond_false]at h;obtain ⟨v,h1,h2⟩:=PM σ h;rw[II hd]at h1;exact BU.val hr v (λ C=>by simp only[e7,hr.ev e (by intro e;cases e),IQ,hp,h1,Option.map_some]) h2
  ·exact h.elim
 ·exact h.elim
theorem eU {n:Nat} {x v:AP} (hr:RX σ tm M st) (h:XE L tm M c5 K (.st n x v)):BU L tm c5 K (.st n x v) st:=by
 simp only[XE,dL]at h;split at h
 ·rename_i key t i j e
  obtain ⟨h0,vs,hc,h5⟩:=W3 h;clear h;cases hn:Nat.beq vs.length n<;>simp only[hn,cond_true,cond_false]at h5;have nq:=BJ.1 hn;split at h5
  ·rename_i s c hm
   have hs:=hr.sat.site _ _ _ hm;split at h5
   ·have y6:=hr.sat.e6 _ _ _ (DS hm)
    rw[hs]at y6;split at h5
    ·rename_i cs
     cases hi:Nat.beq i 0<;>simp only[hi,cond_true,cond_false]at h5;obtain rfl:=BJ.1 hi;have hl:Nat.ble (j+vs.length) cs.length=true:=by
      cases hl:Nat.ble (j+vs.length) cs.length
      ·rw[hl]at h5;exact h5.elim
      ·rfl
     rw[hl]at h5;simp only[cond_true,G8]at h5;refine ⟨.cr (.j4 []) (st.own.put s ((st.own s).o9 (σ key 0).2 (some (A7.e6 σ key (.bx (splice cs j vs)))))),σ,_,_,λ C => ?_,h5,rfl,hr.Hi hm trivial _ trivial (λ h=>nomatch h)⟩;simp only[e7,hr.ev e (by intro e;cases e),EC,hr.ev rfl h0,NU hc,List.length_map];rw[if_pos nq];simp only[AH.jo,AH.get,hs,y6,A7.e6,List.getElem?_cons_zero,List.length_map];rw[if_pos (Nat.le_of_ble_eq_true hl)];simp only[Option.map_some,List.set_cons_zero,qM];have:(splice cs j vs).length=cs.length:=by
      have:=Nat.le_of_ble_eq_true hl
      simp only[splice,List.length_append,List.length_take,List.length_drop];omega
     rw[this]
    ·rename_i z es
     cases hd:D7 vs<;>simp only[hd,cond_true,cond_false]at h5;obtain ⟨cs,g1,g2,h5⟩:=h5;refine ⟨.cr (.j4 []) (st.own.put s ((st.own s).o9 (σ key 0).2 (some (A7.e6 σ key (.rw z (es.set i (splice cs j vs))))))),σ,_,_,λ C => ?_,h5,rfl,hr.Hi hm trivial _ trivial (λ_=>rfl)⟩;simp only[e7,hr.ev e (by intro e;cases e),EC,hr.ev rfl h0,NU hc,II hd];rw[if_pos nq];simp only[AH.jo,AH.get,hs,y6,A7.e6,g1];rw[if_pos g2];rfl
    ·exact h5.elim
    ·rename_i rows
     split at h5
     ·rename_i w5 z m
      cases gv:Nat.beq key w5<;>simp only[gv,cond_true,cond_false]at h5;cases cb:NX key tm<;>simp only[cb,cond_true,cond_false]at h5;cases qa:JU key M<;>simp only[qa,cond_true,cond_false]at h5;cases hj:Nat.beq j 0<;>simp only[hj,cond_true,cond_false]at h5;obtain rfl:=BJ.1 hj;split at h5
      ·rename_i s2 z' es fc
       cases hz:Nat.beq z z'<;>simp only[hz,cond_true,cond_false]at h5;obtain rfl:=BJ.1 hz;rw[KB]at h5;obtain ⟨rfl,hi,h5⟩:=h5;have hlen:(B4 σ key 0 rows)[i]? = some ((B4 σ key 0 rows)[i]'(by rw[E4];exact hi)):=zE _;have jj:((B4 σ key 0 rows)[i]'(by rw[E4];exact hi)).length=1:=by
        have:=FI (σ:=σ) (k:=key) rows 0 i
        rw[hlen,zE hi]at this;simp only[Option.map_some,Option.some.injEq]at this;rw[this];split<;>rfl
       refine ⟨.cr (.j4 []) (st.own.put s ((st.own s).o9 (σ key 0).2 (some ⟨1,(B4 σ key 0 rows).set i [.row (σ w5 0).1 (σ w5 0).2 z 0 es.length]⟩))),_,_,_,λ C => ?_,h5,rfl,hr.xu hm (Or.inl rfl) fc (FM.1 gv) cb qa hi⟩;simp only[e7,hr.ev e (by intro e;cases e),EC,hr.ev rfl h0,NU hc,List.length_map];rw[if_pos nq];simp only[AH.jo,AH.get,hs,y6,A7.e6,hlen,List.map_cons,List.map_nil,List.length_cons,List.length_nil,A8];rw[if_pos (by omega)];simp only[Option.map_some];have Bg:splice ((B4 σ key 0 rows)[i]'(by rw[E4];exact hi)) 0 [.row (σ w5 0).1 (σ w5 0).2 z 0 es.length]=[.row (σ w5 0).1 (σ w5 0).2 z 0 es.length]:=by
        simp only[splice,List.take_zero,List.nil_append,List.length_cons,List.length_nil,Nat.zero_add];rw[List.drop_of_length_le (by omega)];rfl
       rw[Bg]
      ·exact h5.elim
     ·rename_i w5 t2 z m
      cases gv:Nat.beq key w5<;>simp only[gv,cond_true,cond_false]at h5;cases hj:Nat.beq j 0<;>simp only[hj,cond_true,cond_false]at h5;obtain rfl:=BJ.1 hj;obtain rfl:=BJ.1 gv;obtain ⟨z',es,g0,h5⟩:=h5;cases hz:Nat.beq z z'<;>simp only[hz,cond_true,cond_false]at h5;obtain rfl:=BJ.1 hz;obtain ⟨⟨rfl,hi⟩,h5⟩:=h5;have q7:A7.e6 σ key (.vw ((List.range rows.length).set i t2) rows)=⟨1,(B4 σ key 0 rows).set i [.row (σ key (t2+1)).1 (σ key (t2+1)).2 z 0 es.length]⟩:=by
       simp only[A7.e6];congr 1;apply List.ext_getElem?;intro p;rw[List.getElem?_map];by_cases hp:i=p
       ·subst hp
        rw[List.getElem?_set_self (by rw[List.length_range];exact hi),List.getElem?_set_self (by rw[E4];exact hi),Option.map_some,FI,g0];simp
       ·rw[List.getElem?_set_ne hp,List.getElem?_set_ne hp,FI]
        by_cases yn:p<rows.length
        ·rw[List.getElem?_range yn,Option.map_some,FI,zE yn,Option.map_some,Option.getD_some]
        ·rw[List.getElem?_eq_none (by rw[List.length_range];omega),List.getElem?_eq_none (by omega)];rfl
      have hv:=hr.view (w:=(List.range rows.length).set i t2) hm (Or.inl rfl);have hlen:(B4 σ key 0 rows)[i]? = some ((B4 σ key 0 rows)[i]'(by rw[E4];exact hi)):=zE _;have jj:((B4 σ key 0 rows)[i]'(by rw[E4];exact hi)).length=1:=by
       have:=FI (σ:=σ) (k:=key) rows 0 i
       rw[hlen,zE hi]at this;simp only[Option.map_some,Option.some.injEq]at this;rw[this];split<;>rfl
      refine ⟨.cr (.j4 []) (st.own.put s ((st.own s).o9 (σ key 0).2 (some (A7.e6 σ key (.vw ((List.range rows.length).set i t2) rows))))),_,_,_,λ C => ?_,h5,rfl,hv⟩;rw[q7];simp only[e7,hr.ev e (by intro e;cases e),EC,hr.ev rfl h0,NU hc,List.length_map];rw[if_pos nq];simp only[AH.jo,AH.get,hs,y6,A7.e6,hlen,List.map_cons,List.map_nil,List.length_cons,List.length_nil,A8];rw[if_pos (by omega)];simp only[Option.map_some];have Bg:splice ((B4 σ key 0 rows)[i]'(by rw[E4];exact hi)) 0 [.row (σ key (t2+1)).1 (σ key (t2+1)).2 z 0 es.length]=[.row (σ key (t2+1)).1 (σ key (t2+1)).2 z 0 es.length]:=by
       simp only[splice,List.take_zero,List.nil_append,List.length_cons,List.length_nil,Nat.zero_add];rw[List.drop_of_length_le (by omega)];rfl
      rw[Bg]
     ·exact h5.elim
    ·rename_i i0 v0 rows
     split at h5
     ·rename_i w5 z m
      cases gv:Nat.beq key w5<;>simp only[gv,cond_true,cond_false]at h5;cases cb:NX key tm<;>simp only[cb,cond_true,cond_false]at h5;cases qa:JU key M<;>simp only[qa,cond_true,cond_false]at h5;cases hj:Nat.beq j 0<;>simp only[hj,cond_true,cond_false]at h5;obtain rfl:=BJ.1 hj;split at h5
      ·rename_i s2 z' es fc
       cases hz:Nat.beq z z'<;>simp only[hz,cond_true,cond_false]at h5;obtain rfl:=BJ.1 hz;rw[KB]at h5;obtain ⟨⟨rfl,rfl⟩,hi,h5⟩:=h5;refine ⟨.cr (.j4 []) (st.own.put s ((st.own s).o9 (σ key 0).2 (some ⟨1,(B4 σ key 0 rows).set i [.row (σ w5 0).1 (σ w5 0).2 z 0 es.length]⟩))),_,_,_,λ C => ?_,h5,rfl,hr.xu hm (Or.inr ⟨v0,rfl⟩) fc (FM.1 gv) cb qa hi⟩;simp only[e7,hr.ev e (by intro e;cases e),EC,hr.ev rfl h0,NU hc,List.length_map];rw[if_pos nq];simp only[AH.jo,AH.get,hs,y6,A7.e6,List.getElem?_set_self (show i<(B4 σ key 0 rows).length by rw[E4];exact hi),List.map_cons,List.map_nil,List.length_cons,List.length_nil,A8];rw[if_pos (by omega)];simp only[Option.map_some,List.set_set];rfl
      ·exact h5.elim
     ·exact h5.elim
    ·rename_i w rows
     split at h5
     ·rename_i w5 t2 z m
      cases gv:Nat.beq key w5<;>simp only[gv,cond_true,cond_false]at h5;cases hj:Nat.beq j 0<;>simp only[hj,cond_true,cond_false]at h5;obtain rfl:=BJ.1 hj;obtain rfl:=BJ.1 gv;obtain ⟨z',es,g0,h5⟩:=h5;cases hz:Nat.beq z z'<;>simp only[hz,cond_true,cond_false]at h5;obtain rfl:=BJ.1 hz;obtain ⟨⟨rfl,hi,hwr⟩,h5⟩:=h5;have q7:A7.e6 σ key (.vw (w.set i t2) rows)=⟨1,(w.map λ t=>((B4 σ key 0 rows)[t]?).getD []).set i [.row (σ key (t2+1)).1 (σ key (t2+1)).2 z 0 es.length]⟩:=by
       simp only[A7.e6];congr 1;apply List.ext_getElem?;intro p;rw[List.getElem?_map];by_cases hp:i=p
       ·subst hp
        rw[List.getElem?_set_self hi,List.getElem?_set_self (by rw[List.length_map];exact hi),Option.map_some,FI,g0];simp
       ·rw[List.getElem?_set_ne hp,List.getElem?_set_ne hp,List.getElem?_map]
      have hv:=hr.view (w:=w.set i t2) hm (Or.inr ⟨w,rfl⟩);have hlen:(w.map λ t=>((B4 σ key 0 rows)[t]?).getD [])[i]? = some ((w.map λ t=>((B4 σ key 0 rows)[t]?).getD [])[i]'(by rw[List.length_map];exact hi)):=zE _;have jj:((w.map λ t=>((B4 σ key 0 rows)[t]?).getD [])[i]'(by rw[List.length_map];exact hi)).length=1:=by
       rw[List.getElem_map];have l7:=hwr w[i] (List.getElem_mem hi);rw[FI,zE l7];simp only[Option.map_some,Option.getD_some];split<;>rfl
      refine ⟨.cr (.j4 []) (st.own.put s ((st.own s).o9 (σ key 0).2 (some (A7.e6 σ key (.vw (w.set i t2) rows))))),_,_,_,λ C => ?_,h5,rfl,hv⟩;rw[q7];simp only[e7,hr.ev e (by intro e;cases e),EC,hr.ev rfl h0,NU hc,List.length_map];rw[if_pos nq];simp only[AH.jo,AH.get,hs,y6,A7.e6,hlen,List.map_cons,List.map_nil,List.length_cons,List.length_nil,A8];rw[if_pos (by omega)];simp only[Option.map_some];have Bg:splice ((w.map λ t=>((B4 σ key 0 rows)[t]?).getD [])[i]'(by rw[List.length_map];exact hi)) 0 [.row (σ key (t2+1)).1 (σ key (t2+1)).2 z 0 es.length]=[.row (σ key (t2+1)).1 (σ key (t2+1)).2 z 0 es.length]:=by
       simp only[splice,List.take_zero,List.nil_append,List.length_cons,List.length_nil,Nat.zero_add];rw[List.drop_of_length_le (by omega)];rfl
      rw[Bg]
     ·exact h5.elim
   ·rename_i i'
    split at h5
    ·rename_i rows
     cases hd:D7 vs<;>simp only[hd,cond_true,cond_false]at h5;obtain ⟨z,es,g0,cs,g1,g2,g3,h5⟩:=h5;have y6:=hr.sat.e6 key (i'+1) (.rw z es) (by simp [c6,hm,g0]);refine ⟨.cr (.j4 []) (st.own.put (σ key (i'+1)).1 ((st.own (σ key (i'+1)).1).o9 (σ key (i'+1)).2 (some ⟨z,es.set i (splice cs j vs)⟩))),σ,_,_,λ C => ?_,h5,rfl,hr.Hf hm g0 g3⟩;simp only[e7,hr.ev e (by intro e;cases e),EC,hr.ev rfl h0,NU hc,II hd];rw[if_pos nq];simp only[AH.jo,AH.get,y6,A7.e6,g1];rw[if_pos g2];rfl
    ·exact h5.elim
  ·exact h5.elim
 ·exact h.elim
theorem vM {s z bytes:Nat} {zero:List AV} {a c:AP} (hr:RX σ tm M st) (h:XE L tm M c5 K (.mk s z bytes zero a c)):BU L tm c5 K (.mk s z bytes zero a c) st:=by
 simp only[XE]at h;split at h
 ·rename_i k1 p k2 q e1 e2
  cases hz:Nat.beq zero.length z<;>simp only[hz,cond_true,cond_false]at h;cases hd:D7 zero<;>simp only[hd,cond_true,cond_false]at h;split at h
  ·cases dw:EU s<;>simp only[dw,cond_true,cond_false]at h
   obtain ⟨⟨g1,g2,g3,g4⟩,h⟩:=h;obtain ⟨k,h1,h2,h3⟩:=GU h;have eg:A7.flat (.mx (List.replicate p.toNat none)):=by
    intro i x hx;have:=List.getElem?_replicate (n:=p.toNat) (a:=(none:Option (Nat × List (List AV)))) (i:=i)
    rw[this]at hx;split at hx<;>cases hx
   have ig:z=1:=(BJ.1 hz).symm;have dk:A7.e6 σ k (.mx (List.replicate p.toNat none))=⟨z,List.replicate p.toNat [.nil]⟩:=by
    simp only[A7.e6,ig];congr 1;have : ∀ (n i:Nat),B4 σ k i (List.replicate n none)=List.replicate n [AV.nil]:=by
     intro n;induction n with
     | zero=>intro i;rfl
     | succ n ih=>intro i;rw[List.replicate_succ,List.replicate_succ,B4,ih]
    exact this _ _
   refine ⟨.new s (A7.e6 σ k (.mx (List.replicate p.toNat none))) (λ t => .row s t z 0 p.toNat),_,_,_,λ C => ?_,h3,?_,hr.da h1 h2 (.mx _) eg rfl (λ_=>dw)⟩
   ·simp only[e7,hr.ev e1 (by intro e;cases e),hr.ev e2 (by intro e;cases e),HE,dk]
    rw[if_pos ⟨g1,g2,g3,g4,BJ.1 hz⟩]
   ·simp only[B7.res,DC,BV]
  ·cases dw:EU s<;>simp only[dw,cond_true,cond_false]at h
   obtain ⟨⟨g1,g2,g3,g4⟩,h⟩:=h;obtain ⟨k,h1,h2,h3⟩:=GU h;refine ⟨.new s ⟨z,List.replicate p.toNat zero⟩ (λ t => .row s t z 0 p.toNat),_,_,_,λ C => ?_,h3,?_,hr.da h1 h2 (.rw z _) trivial rfl (λ_=>dw)⟩
   ·simp only[e7,hr.ev e1 (by intro e;cases e),hr.ev e2 (by intro e;cases e),HE]
    rw[if_pos ⟨g1,g2,g3,g4,BJ.1 hz⟩]
   ·simp only[B7.res,DC,BV]
 ·exact h.elim
theorem kU {v:AV} {K:AV->Prop} (h:f2 v K):v ≠ .any/\BC σ v=BT σ v/\K v:=by
 cases v<;>simp only[f2,G8]at h<;>first|exact h.elim|exact ⟨(by intro e;cases e),rfl,h⟩
theorem mU : ∀ (vs:List AV) (i:Nat),tp vs i ≠ .any->vs[i]? = some (tp vs i)
 | [],_,h=>absurd rfl h
 | _::_,0,_=>rfl
 | _::r,i+1,h=>mU r i h
theorem vE {x:AP} {i:Nat} (hr:RX σ tm M st) (h:XE L tm M c5 K (.ext x i)):BU L tm c5 K (.ext x i) st:=by
 simp only[XE]at h;split at h
 ·rename_i vs e
  obtain ⟨h1,h2,h3⟩:=kU (σ:=σ) h;refine BU.val hr _ (λ C => ?_) h3;simp only[e7,hr.ev e (by intro e;cases e),IC,List.getElem?_map,mU vs i h1,Option.map_some,h2]
 ·exact h.elim
theorem vL {x:AP} (hr:RX σ tm M st) (h:XE L tm M c5 K (.len x)):BU L tm c5 K (.len x) st:=by
 simp only[XE]at h;split at h
 ·rename_i q es e
  exact BU.val hr _ (λ C=>by simp only[e7,hr.ev e (by intro e;cases e),G1,OT];rfl) h.h
 ·rename_i e
  exact BU.val hr _ (λ C=>by simp only[e7,hr.ev e (by intro e;cases e),FJ,OT];rfl) h
 ·rename_i e
  exact BU.val hr _ (λ C=>by simp only[e7,hr.ev e (by intro e;cases e),DC,OT];rfl) h
 ·exact h.elim
theorem nW {mx:Bool} {k:IntKind} {K:AV->Prop} : ∀ {l:List AV} {a:Int},QU mx k K a l -> ∃ n,JX mx (.int k a) l=some (.int k n)/\K (.int k n)/\(∀ v∈l,v ≠ .any/\BC σ v=v)
 | [],a,h=>⟨a,rfl,h,λ v hv=>by cases hv⟩
 | v::r,a,h=>by
  cases v with
  | int k' b =>
   have h:(bif mx then AF (a<b) (b<=a) (QU mx k K b r) (QU mx k K a r) else AF (b<a) (a<=b) (QU mx k K b r) (QU mx k K a r)):=h;have fin : ∀ c:Int,OW mx (.int k a) (.int k' b)=some (.int k c)->QU mx k K c r -> ∃ n,JX mx (.int k a) (.int k' b::r)=some (.int k n)/\K (.int k n)/\(∀ v∈AV.int k' b::r,v ≠ .any/\BC σ v=v):=by
    intro c hc hx;obtain ⟨n,h1,h2,h3⟩:=nW hx;refine ⟨n,by simp only[JX,hc,h1],h2,λ v hv => ?_⟩;rcases List.mem_cons.1 hv with rfl|hv
    ·exact ⟨(by intro e;cases e),rfl⟩
    ·exact h3 v hv
   cases mx
   ·simp only[cond_false]at h
    by_cases hc:b<a
    ·exact fin b (by simp [OW,hc]) (h.1 hc)
    ·exact fin a (by simp [OW,hc]) (h.2 (by omega))
   ·simp only[cond_true]at h
    by_cases hc:a<b
    ·exact fin b (by simp [OW,hc]) (h.1 hc)
    ·exact fin a (by simp [OW,hc]) (h.2 (by omega))
  | _=>exact (h:False).elim
theorem vO {mx:Bool} {xs:List AP} (hr:RX σ tm M st) (h:XE L tm M c5 K (.mm mx xs)):BU L tm c5 K (.mm mx xs) st:=by
 simp only[XE]at h;split at h
 ·rename_i k a r e
  obtain ⟨n,h1,h2,h3⟩:=nW (σ:=σ) h;refine BU.val hr (.int k n) (λ C => ?_) h2;have hx : ∀ v∈PF tm xs,v ≠ .any:=by
   rw[e];intro v hv;rcases List.mem_cons.1 hv with rfl|hv
   ·intro e;cases e
   ·exact (h3 v hv).1
  have hm:(PF tm xs).map (BC σ) = .int k a::r:=by
   rw[e,List.map_cons];congr 1;conv=>rhs;rw[<-List.map_id r]
   exact List.map_congr_left λ v hv=>(h3 v hv).2
  simp only[e7];rw[show xs.map st.ev = .int k a::r from (Ws hr hx).trans hm];simp only[h1,Option.map_some,HE]
 ·exact h.elim
theorem Sk (hr:RX σ tm M st) {k t:Nat} {K:Nat->List (List AV)->Prop} (h:cT M k t K) : ∃ z es,(st.own (σ k t).1).e6 (σ k t).2=some ⟨z,es⟩/\K z es:=by
 unfold cT at h;split at h
 ·rename_i s c hm
  split at h
  ·split at h
   ·exact ⟨_,_,hr.sat.e6 _ _ _ (DS hm),h⟩
   ·exact h.elim
  ·rename_i i
   split at h
   ·rename_i rows
    obtain ⟨z,es,g,h⟩:=h;exact ⟨z,es,hr.sat.e6 k (i+1) (.rw z es) (by simp [c6,hm,g]),h⟩
   ·exact h.elim
 ·exact h.elim
theorem Um {own l8:AH} {s t i j:Nat} {vs:List AV} (h:own.jo s t i j vs=some l8):own.put s (l8 s)=l8:=by
 unfold AH.jo at h;cases hg:own.get s t with
 | none=>simp [hg]at h
 | some b =>
  simp only[hg]at h;cases he:b.es[i]? with
  | none=>simp [he]at h
  | some cs =>
   simp only[he]at h;split at h
   ·obtain rfl:=Option.some.inj h
    rw[AH.g9]
   ·cases h
theorem vT {s n:Nat} {x v:AP} (hr:RX σ tm M st) (h:XE L tm M c5 K (.kz s n x v)):BU L tm c5 K (.kz s n x v) st:=by
 simp only[XE]at h;split at h
 ·rename_i key i j e1
  split at h
  ·rename_i s' c hm
   cases hb:Nat.beq s' s<;>simp only[hb,cond_true,cond_false]at h;obtain rfl:=BJ.1 hb;have dp:=hr.sat.site _ _ _ hm;obtain ⟨E,σ',v',M',h1,h2,h3,h4⟩:=eU (c5:=c5) (L:=L) hr (show XE L tm M c5 K (.st n x v) from h);have bf:=hr.ev e1 (by intro e;cases e);rw[EC,dp]at bf;have key : ∀ vs,cellsOf (st.ev v)=some vs->vs.length=n -> ∃ o',st.own.jo s' (σ key 0).2 i j vs=some o'/\E = .cr (.j4 []) o':=λ vs fe hn=>by
    have:=h1 0
    simp only[e7,bf,fe]at this;rw[if_pos hn,Option.map_eq_some_iff]at this;obtain ⟨o',a1,a2⟩:=this;exact ⟨o',a1,a2.symm⟩
   cases fe:cellsOf (st.ev v) with
   | none=>have:=h1 0;simp [e7,bf,fe]at this
   | some vs =>
    by_cases hn:vs.length=n
    ·obtain ⟨o',a1,rfl⟩:=key vs fe hn
     refine ⟨.o9 s' (o' s'),σ',v',M',λ C => ?_,h2,h3,?_⟩
     ·simp only[e7,bf,fe]
      rw[if_pos ⟨trivial,hn⟩,a1];rfl
     ·have e2:(B7.res st.own (.o9 s' (o' s'))).2=o':=Um a1
      rw[e2];exact h4
    ·have:=h1 0
     simp only[e7,bf,fe]at this;rw[if_neg hn]at this;cases this
  ·exact h.elim
 ·exact h.elim
theorem vJ {ne:Bool} {x:AP} (hr:RX σ tm M st) (h:XE L tm M c5 K (.oi ne x)):BU L tm c5 K (.oi ne x) st:=by
 simp only[XE]at h;split at h
 ·rename_i e1
  rw[PG]at h;exact BU.val hr _ (λ C=>by simp only[e7,hr.ev e1 (by intro e;cases e),FJ,G0]) h
 ·rename_i b e1
  rw[PG]at h;exact BU.val hr _ (λ C=>by simp only[e7,hr.ev e1 (by intro e;cases e),Sl,G0]) h
 ·rename_i q es e1
  obtain ⟨h0,h⟩:=h;rw[PG]at h;cases es with
  | nil=>exact absurd rfl h0
  | cons e es=>exact BU.val hr _ (λ C=>by simp only[e7,hr.ev e1 (by intro e;cases e),G1,G0]) h
 ·rename_i s t z o n e1
  obtain ⟨h0,h⟩:=h;rw[PG]at h;cases n with
  | zero=>exact absurd h0 (by omega)
  | succ n=>exact BU.val hr _ (λ C=>by simp only[e7,hr.ev e1 (by intro e;cases e),DC,G0]) h
 ·exact h.elim
theorem vR {tb:List Nat} {x:AP} (hr:RX σ tm M st) (h:XE L tm M c5 K (.eu tb x)):BU L tm c5 K (.eu tb x) st:=by
 simp only[XE]at h;split at h
 ·rename_i k n e1
  obtain ⟨h0,v,h1,h2⟩:=h;exact BU.val hr _ (λ C=>by simp only[e7,hr.ev e1 (by intro e;cases e),HE,h1];rw[if_pos h0]) h2
 ·exact h.elim
theorem Nu {v:AV} {K:AV->Prop} (h:fF v K):v ≠ .any/\GP (BC σ v)=some (A8 σ v)/\K v:=by
 cases v<;>first|exact (h:False).elim|exact ⟨(by intro e;cases e),rfl,h⟩
theorem oL (hr:RX σ tm M st) : ∀ {l:List AP} {K:List AV->Prop},bV tm l K -> ∃ cs,l.mapM (λ x=>GP (st.ev x))=some (cs.map (A8 σ))/\K cs
 | [],K,h=>⟨[],rfl,h⟩
 | x::r,K,h=>by
  obtain ⟨h0,hc,h⟩:=Nu (σ:=σ) (show fF (ex tm x) λ v=>bV tm r λ cs=>K (v::cs) from h);obtain ⟨cs,h1,h2⟩:=oL hr h;refine ⟨ex tm x::cs,?_,h2⟩;rw[List.mapM_cons,h1,hr.ev rfl h0,hc];rfl
theorem vN {p:Bool} {f:Nat} {xs:List AP} (hr:RX σ tm M st) (h:XE L tm M c5 K (.mh p f xs)):BU L tm c5 K (.mh p f xs) st:=by
 simp only[XE]at h;obtain ⟨cs,h1,h2⟩:=oL hr h;exact BU.val hr _ (λ C=>by simp only[e7,h1,Option.map_some,X6,List.isEmpty_map];rfl) h2
theorem Lc (hr:RX σ tm M st) {v:AV} {K:List (List AV)->Prop} (h:WS M v K):v ≠ .any /\ ∃ es,EJ st.own (BC σ v)=some es/\K es:=by
 cases v with
 | sl q es=>exact ⟨(by intro e;cases e),_,rfl,h⟩
 | nil=>exact ⟨(by intro e;cases e),_,rfl,h⟩
 | bh v =>
  cases v with
  | bool b=>exact ⟨(by intro e;cases e),_,rfl,h⟩
  | _=>exact (h:False).elim
 | row key t z off len =>
  simp only[WS]at h;obtain ⟨z',es,g,h⟩:=Sk hr h;cases hz:Nat.beq z z'<;>simp only[hz,cond_true,cond_false]at h;obtain rfl:=BJ.1 hz;refine ⟨(by intro e;cases e),_,?_,h.2⟩;simp only[DC,EJ,AH.get,g];rw[if_pos ⟨h.1,trivial⟩]
 | _=>exact (h:False).elim
theorem bW (hr:RX σ tm M st) {o:Option AP} {K:Option Int->Prop} (h:XN tm o K):(o=none/\K none) \/ ∃ x k n,o=some x/\st.ev x = .int k n/\K (some n):=by
 unfold XN at h;split at h
 ·exact Or.inl ⟨rfl,h⟩
 ·split at h
  ·rename_i e
   exact Or.inr ⟨_,_,_,rfl,hr.ev e (by intro e;cases e),h⟩
  ·exact h.elim
theorem vS {z:Nat} {x:AP} {lo hi:Option AP} (hr:RX σ tm M st) (h:XE L tm M c5 K (.ew z x lo hi)):BU L tm c5 K (.ew z x lo hi) st:=by
 simp only[XE]at h;have go : ∀ (a b:Option Int),(match ex tm x with
   | .sl l es=>C7 z es a b λ es=>K (.sl l es) M
   | .row key t z' off len=>bif Nat.beq z' z then CD a b len λ a h=>K (.row key t z (off+a) (h-a)) M else False
   | .nil=>(match a,b with
    | none,none=>K .nil M
    | some a,none=>AQ (a=0) (K .nil M)
    | none,some h=>AQ (h=0) (K .nil M)
    | some a,some h=>AQ (a=0/\h=0) (K .nil M))
   | _=>False)->(lo=none/\a=none \/ ∃ y k n,lo=some y/\st.ev y = .int k n/\a=some n)->(hi=none/\b=none \/ ∃ y k n,hi=some y/\st.ev y = .int k n/\b=some n)->BU L tm c5 K (.ew z x lo hi) st:=by
  intro a b h ha hb;split at h
  ·rename_i q es e
   obtain ⟨g1,a',h',g2,g3,g4,h⟩:=h;refine BU.val hr _ (λ C => ?_) h;rcases ha with ⟨rfl,rfl⟩|⟨y,k,n,rfl,e1,rfl⟩<;>rcases hb with ⟨rfl,rfl⟩|⟨y',k',n',rfl,e2,rfl⟩<;>try simp only at g2 g3<;>simp only[e7,hr.ev e (by intro e;cases e),G1, *]<;>simp_all
  ·rename_i key t z' off len e
   cases hz:Nat.beq z' z<;>simp only[hz,cond_true,cond_false]at h;obtain rfl:=BJ.1 hz;obtain ⟨a',h',g2,g3,g4,h⟩:=h;refine BU.val hr _ (λ C => ?_) h;rcases ha with ⟨rfl,rfl⟩|⟨y,k,n,rfl,e1,rfl⟩<;>rcases hb with ⟨rfl,rfl⟩|⟨y',k',n',rfl,e2,rfl⟩<;>try simp only at g2 g3<;>simp only[e7,hr.ev e (by intro e;cases e),DC, *]<;>simp_all
  ·rename_i e
   rcases ha with ⟨rfl,rfl⟩|⟨y,k,n,rfl,e1,rfl⟩<;>rcases hb with ⟨rfl,rfl⟩|⟨y',k',n',rfl,e2,rfl⟩<;>simp only at h
   ·exact BU.val hr .nil (λ C=>by simp only[e7,hr.ev e (by intro e;cases e),FJ]) h
   ·exact BU.val hr .nil (λ C=>by simp only[e7,hr.ev e (by intro e;cases e),FJ,e2,h.1,if_true]) h.2
   ·exact BU.val hr .nil (λ C=>by simp only[e7,hr.ev e (by intro e;cases e),FJ,e1,h.1,if_true]) h.2
   ·exact BU.val hr .nil (λ C=>by simp only[e7,hr.ev e (by intro e;cases e),FJ,e1,e2,h.1.1,h.1.2,if_true]) h.2
  ·exact h.elim
 rcases bW hr h with ⟨h1,h⟩|⟨y,k,n,h1,h2,h⟩
 ·rcases bW hr h with ⟨g1,h⟩|⟨y,k,n,g1,g2,h⟩
  ·exact go _ _ h (Or.inl ⟨h1,rfl⟩) (Or.inl ⟨g1,rfl⟩)
  ·exact go _ _ h (Or.inl ⟨h1,rfl⟩) (Or.inr ⟨_,_,_,g1,g2,rfl⟩)
 ·rcases bW hr h with ⟨g1,h⟩|⟨y',k',n',g1,g2,h⟩
  ·exact go _ _ h (Or.inr ⟨_,_,_,h1,h2,rfl⟩) (Or.inl ⟨g1,rfl⟩)
  ·exact go _ _ h (Or.inr ⟨_,_,_,h1,h2,rfl⟩) (Or.inr ⟨_,_,_,g1,g2,rfl⟩)
theorem U4 {s key:Nat} : ∀ {M:Mem},GQ s M=false->GQ s (o5 key M)=false
 | [],_=>rfl
 | (i,s0,c0)::r,h=>by
  simp only[GQ]at h;cases q0:Nat.beq s i<;>simp only[q0,cond_true,cond_false]at h
  ·cases q1:GZ s c0<;>simp only[q1,cond_true,cond_false]at h
   ·simp only[o5]
    cases Nat.beq key i
    ·simp only[cond_false,GQ,q0,q1,U4 h]
    ·simp only[cond_true,U4 h]
   ·cases h
  ·cases h
theorem uV {s z bytes:Nat} {x y:AP} (hr:RX σ tm M st) (h:WS M (ex tm y) λ ys=>match ex tm x with
   | .row key 0 z' off len=>bif Nat.beq off 0 then bif Nat.beq z' z then (match c8 M key with
    | some (s',.rw az es)=>bif Nat.beq az z then fM (o5 key M) λ M'=>(AX es len ys z bytes λ es' n=>FS s tm M λ k=>K (.row k 0 z 0 n) ((k,s',.rw z es')::M')) else False
    | _=>False) else False else False
   | .row key (i+1) z' off len=>bif Nat.beq off 0 then bif Nat.beq z' z then (match c8 M key with
    | some (sk,.mx rows)=>fM (o5 key M) λ M'=>C3 rows i λ az es=>bif Nat.beq az z then (AX es len ys z bytes λ es' n => ∀ s' v,FS s tm M λ k=>K (.row k 0 z 0 n) ((k,s',.rw z es')::(key,sk,.hx i v (rows.set i none))::M')) else False
    | _=>False) else False else False
   | .nil=>bif EU s then BI ys z bytes λ es n=>FS s tm M λ k=>K (.row k 0 z 0 n) ((k,s,.rw z es)::M) else False
   | _=>False):BU L tm c5 K (.app s z bytes x y) st:=by
 obtain ⟨h0,ys,hy,h⟩:=Lc hr h;have ti:EJ st.own (st.ev y)=some ys:=by rw[hr.ev rfl h0];exact hy
 split at h
 ·rename_i key z' off len e
  cases ho:Nat.beq off 0<;>simp only[ho,cond_true,cond_false]at h;cases hz:Nat.beq z' z<;>simp only[hz,cond_true,cond_false]at h;obtain rfl:=BJ.1 ho;obtain rfl:=BJ.1 hz;split at h
  ·rename_i s' az es hm
   cases qy:Nat.beq az z'<;>simp only[qy,cond_true,cond_false]at h;obtain rfl:=BJ.1 qy;rw[KB]at h;obtain ⟨g1,g2,g3,g4,h⟩:=h;obtain ⟨k,h1,h2,h3⟩:=GU h;have hs:=hr.sat.site _ _ _ hm;have y6:=hr.sat.e6 _ _ _ (DS hm);have hn:=(hr.kill hm).da (s:=k) (q:=s') (U4 h1) h2 (.rw az (es.take len++ys)) trivial rfl (λ_=>by have:=hr.sat.low _ _ _ (DS hm) rfl;rwa [hs]at this);have pk:(st.own.put s' ((st.own s').o9 (σ key 0).2 none)).g8 s'=st.own.g8 s':=by simp [AH.g8,AH.g9,B8.o9]
   simp only[AH.g9,AH.fp,pk]at hn;refine ⟨.cr (.row s' (st.own.g8 s') az 0 (len+ys.length)) (st.own.put s' (((st.own s').o9 (σ key 0).2 none).new ⟨az,es.take len++ys⟩)),_,_,_,λ C => ?_,h3,?_,hn⟩
   ·rw[hs]at y6
    simp only[e7,ti,hr.ev e (by intro e;cases e),DC,AH.get,hs,y6,A7.e6];rw[if_pos g2,if_pos ⟨trivial,trivial,g1,g3,g4⟩]
   ·simp only[B7.res,DC,BV]
  ·exact h.elim
 ·rename_i key i z' off len e
  cases ho:Nat.beq off 0<;>simp only[ho,cond_true,cond_false]at h;cases hz:Nat.beq z' z<;>simp only[hz,cond_true,cond_false]at h;obtain rfl:=BJ.1 ho;obtain rfl:=BJ.1 hz;split at h
  ·rename_i sk rows hm
   rw[KB]at h;obtain ⟨az,es,g0,h⟩:=h;cases qy:Nat.beq az z'<;>simp only[qy,cond_true,cond_false]at h;obtain rfl:=BJ.1 qy;obtain ⟨g1,g2,g3,g4,h⟩:=h;have h:=h (σ key (i+1)).1 (.row (σ key (i+1)).1 (σ key (i+1)).2 az 0 es.length);obtain ⟨k,h1,h2,h3⟩:=GU h;have y6:=hr.sat.e6 key (i+1) (.rw az es) (by simp [c6,hm,g0]);have hn:=hr.Di (s:=k) (es':=es.take len++ys) hm g0 h1 h2;refine ⟨.cr (.row (σ key (i+1)).1 (st.own.g8 (σ key (i+1)).1) az 0 (len+ys.length)) (st.own.put (σ key (i+1)).1 (((st.own (σ key (i+1)).1).o9 (σ key (i+1)).2 none).new ⟨az,es.take len++ys⟩)),_,_,_,λ C => ?_,h3,?_,hn⟩
   ·simp only[e7,ti,hr.ev e (by intro e;cases e),DC,AH.get,y6,A7.e6]
    rw[if_pos g2,if_pos ⟨trivial,trivial,g1,g3,g4⟩]
   ·simp only[B7.res,DC,BV]
  ·exact h.elim
 ·rename_i e
  cases dw:EU s<;>simp only[dw,cond_true,cond_false]at h;obtain ⟨g2,g3,g4,h⟩:=h;obtain ⟨k,h1,h2,h3⟩:=GU h;refine ⟨.cr (.row s (st.own.g8 s) z 0 ys.length) (st.own.put s ((st.own s).new ⟨z,ys⟩)),_,_,_,λ C => ?_,h3,?_,hr.da h1 h2 (.rw z ys) trivial rfl (λ_=>dw)⟩
  ·simp only[e7,ti,hr.ev e (by intro e;cases e),FJ]
   rw[if_pos g2,if_pos ⟨g3,g4⟩]
  ·simp only[B7.res,DC,BV]
 ·exact h.elim
theorem uX {s z bytes:Nat} {x y:AP} (hr:RX σ tm M st) (h:XE L tm M c5 K (.v9 s z bytes x y)):BU L tm c5 K (.v9 s z bytes x y) st:=by
 simp only[XE]at h;split at h
 ·rename_i l ys ey
  split at h
  ·rename_i key z' off len e
   cases ho:Nat.beq off 0<;>simp only[ho,cond_true,cond_false]at h;cases hz:Nat.beq z' z<;>simp only[hz,cond_true,cond_false]at h;obtain rfl:=BJ.1 ho;obtain rfl:=BJ.1 hz;split at h
   ·rename_i s' az es hm
    cases ju:Nat.beq s' s<;>simp only[ju,cond_true,cond_false]at h;cases qy:Nat.beq az z'<;>simp only[qy,cond_true,cond_false]at h;obtain rfl:=BJ.1 ju;obtain rfl:=BJ.1 qy;rw[KB]at h;obtain ⟨g1,g2,g3,g4,h⟩:=h;obtain ⟨k,h1,h2,h3⟩:=GU h;have hs:=hr.sat.site _ _ _ hm;have y6:=hr.sat.e6 _ _ _ (DS hm);have hn:=(hr.kill hm).da (s:=k) (q:=s') (U4 h1) h2 (.rw az (es.take len++ys)) trivial rfl (λ_=>by have:=hr.sat.low _ _ _ (DS hm) rfl;rwa [hs]at this);have pk:(st.own.put s' ((st.own s').o9 (σ key 0).2 none)).g8 s'=st.own.g8 s':=by simp [AH.g8,AH.g9,B8.o9]
    simp only[AH.g9,AH.fp,pk]at hn;refine ⟨.nu s' (((st.own s').o9 (σ key 0).2 none).new ⟨az,es.take len++ys⟩) (.row s' (st.own.g8 s') az 0 (len+ys.length)),_,_,_,λ C => ?_,h3,?_,hn⟩
    ·rw[hs]at y6
     simp only[e7,hr.ev ey (by intro e;cases e),G1,hr.ev e (by intro e;cases e),DC,AH.get,hs,y6,A7.e6];rw[if_pos ⟨trivial,g2,trivial,trivial,g1,g3,g4⟩]
    ·simp only[B7.res,DC,BV]
   ·exact h.elim
  ·rename_i e
   cases dw:EU s<;>simp only[dw,cond_true,cond_false]at h;obtain ⟨g2,g3,g4,h⟩:=h;obtain ⟨k,h1,h2,h3⟩:=GU h;refine ⟨.nu s ((st.own s).new ⟨z,ys⟩) (.row s (st.own.g8 s) z 0 ys.length),_,_,_,λ C => ?_,h3,?_,hr.da h1 h2 (.rw z ys) trivial rfl (λ_=>dw)⟩
   ·simp only[e7,hr.ev ey (by intro e;cases e),G1,hr.ev e (by intro e;cases e),FJ]
    rw[if_pos ⟨g2,g3,g4⟩]
   ·simp only[B7.res,DC,BV]
  ·exact h.elim
 ·exact h.elim
theorem wE {v:AV} {ky k2 z n:Nat} (h:P8 M v=some (ky,some (k2,z,n))):v = .row ky 0 1 0 1 /\ ∃ sy,c8 M ky=some (sy,.bs 1 [[.row k2 0 z 0 n]]):=by
 unfold P8 at h;split at h
 ·split at h
  ·rename_i hm
   simp only[Option.some.injEq,Prod.mk.injEq]at h;obtain ⟨rfl,rfl,rfl,rfl⟩:=h;exact ⟨rfl,_,hm⟩
  ·simp at h
  ·cases h
 ·cases h
theorem wD {v:AV} {ky:Nat} (h:P8 M v=some (ky,none)):v = .row ky 0 1 0 1 /\ ∃ sy,c8 M ky=some (sy,.rw 1 [[.nil]]):=by
 unfold P8 at h;split at h
 ·split at h
  ·simp at h
  ·rename_i hm
   simp only[Option.some.injEq,Prod.mk.injEq,and_true]at h;subst h;exact ⟨rfl,_,hm⟩
  ·cases h
 ·cases h
theorem mT {z:Nat} : ∀ {es:List (List AV)},UH z es=true -> ∀ e∈es,e.length=z
 | [],_,e,he=>by cases he
 | a::r,h,e,he=>by
  simp only[UH]at h;cases h1:Nat.beq a.length z<;>simp only[h1,cond_true,cond_false]at h
  ·cases h
  ·rcases List.mem_cons.1 he with rfl|he
   ·exact BJ.1 h1
   ·exact mT h e he
theorem pK {k:Nat} {b:List (List AV)} (r2:IP k b=false) : ∀ {a:List (List AV)},IP k a=false->IP k (a++b)=false
 | [],_=>r2
 | c::a,h=>by
  simp only[IP,List.cons_append]at h ⊢;cases hq:HO k c<;>simp only[hq,cond_true,cond_false]at h ⊢
  ·exact pK r2 h
  ·cases h
theorem uW {s z bytes:Nat} {x y:AP} (hr:RX σ tm M st) (h:Y4 tm M s z bytes x y K):BU L tm c5 K (.app s z bytes x y) st:=by
 unfold Y4 at h;split at h
 ·rename_i ky zy ny ey
  split at h
  ·rename_i sy z2 ik np
   cases a1:Nat.beq zy z<;>simp only[a1,cond_true,cond_false]at h;cases a2:Nat.beq z2 z<;>simp only[a2,cond_true,cond_false]at h;cases a3:Nat.beq ny ik.length<;>simp only[a3,cond_true,cond_false]at h;cases a4:UH z ik<;>simp only[a4,cond_true,cond_false]at h;have b1:=BJ.1 a1;have b2:=BJ.1 a2;have b3:=BJ.1 a3;subst b1 b2 b3;have ic:=hr.sat.site _ _ _ np;have nk:=hr.sat.e6 _ _ _ (DS np);rw[ic]at nk
   have uz:EJ st.own (st.ev y)=some (ik.map λ cs=>cs.map (A8 σ)):=by
    rw[hr.ev ey (by intro e;cases e)];simp only[DC,EJ,AH.get,ic,nk,A7.e6];rw[if_pos (by simp),List.drop_zero,zT (by simp)]
   have nx : ∀ e∈ik.map (λ cs=>cs.map (A8 σ)),e.length=z2:=λ e he=>by
    obtain ⟨c,hc,rfl⟩:=List.mem_map.1 he;rw[List.length_map];exact mT a4 c hc
   split at h
   ·rename_i e
    cases dw:EU s<;>simp only[dw,cond_true,cond_false]at h;obtain ⟨⟨g3,g4⟩,h⟩:=bG h;obtain ⟨k,h1,h2,h3⟩:=GU h;have yv:GZ k (.bs z2 ik)=false:=(N6 h1 _ _ _ np).2;refine ⟨.cr (.row s (st.own.g8 s) z2 0 ik.length) (st.own.put s ((st.own s).new ⟨z2,ik.map λ cs=>cs.map (A8 σ)⟩)),_,_,_,λ C => ?_,h3,?_,hr.da h1 h2 (.bs z2 ik) trivial yv (λ_=>dw)⟩
    ·simp only[e7,uz,hr.ev e (by intro e;cases e),FJ]
     rw[if_pos nx,if_pos ⟨by simpa [EQ] using g3,by simpa using g4⟩,List.length_map]
    ·simp only[B7.res,DC,BV]
   ·rename_i kx zx len e
    cases c1:Nat.beq zx z2<;>simp only[c1,cond_true,cond_false]at h;split at h
    ·rename_i s' z1 rf hm
     cases c2:Nat.beq z1 z2<;>simp only[c2,cond_true,cond_false]at h;cases c3:Nat.beq len rf.length<;>simp only[c3,cond_true,cond_false]at h;have d1:=BJ.1 c1;have d2:=BJ.1 c2;have d3:=BJ.1 c3;subst d1 d3;rw[KB]at h;obtain ⟨⟨g3,g4⟩,h⟩:=bG h;obtain ⟨k,h1,h2,h3⟩:=GU h;have hs:=hr.sat.site _ _ _ hm;have y6:=hr.sat.e6 _ _ _ (DS hm);have r1:IP k rf=false:=(N6 h1 _ _ _ hm).2;have r2:IP k ik=false:=(N6 h1 _ _ _ np).2;have yv:GZ k (.bs zx (rf++ik))=false:=by
      exact pK r2 r1
     have hn:=(hr.kill hm).da (s:=k) (q:=s') (U4 h1) h2 (.bs zx (rf++ik)) trivial yv (λ_=>by have:=hr.sat.low _ _ _ (DS hm) rfl;rwa [hs]at this);have pk:(st.own.put s' ((st.own s').o9 (σ kx 0).2 none)).g8 s'=st.own.g8 s':=by simp [AH.g8,AH.g9,B8.o9]
     simp only[AH.g9,AH.fp,pk,A7.e6,List.map_append]at hn;rw[hs]at y6;refine ⟨.cr (.row s' (st.own.g8 s') zx 0 (rf.length+ik.length)) (st.own.put s' (((st.own s').o9 (σ kx 0).2 none).new ⟨zx,rf.map (λ cs=>cs.map (A8 σ))++ik.map λ cs=>cs.map (A8 σ)⟩)),_,_,_,λ C => ?_,h3,?_,hn⟩
     ·simp only[e7,uz,hr.ev e (by intro e;cases e),DC,AH.get,hs,y6,A7.e6]
      rw[if_pos nx,if_pos ⟨d2,trivial,by simp,by simpa [EQ] using g3,by simpa using g4⟩,zT (by simp),List.length_map]
     ·simp only[B7.res,DC,BV,List.length_append]
    ·exact h.elim
   ·exact h.elim
  ·exact h.elim
 ·exact h.elim
theorem uU {s z bytes:Nat} {x y:AP} (hr:RX σ tm M st) (h:XE L tm M c5 K (.app s z bytes x y)):BU L tm c5 K (.app s z bytes x y) st:=by
 simp only[XE]at h;cases hV:Nat.ble 800000 s<;>simp only[hV,cond_true,cond_false]at h;rotate_left
 ·exact uW hr h
 split at h
 ·rename_i ky k2 z2 n2 El
  obtain ⟨kp,sy,np⟩:=wE El;have ic:=hr.sat.site _ _ _ np;have nk:=hr.sat.e6 _ _ _ (DS np);rw[ic]at nk
  have uz:EJ st.own (st.ev y)=some [[.row (σ k2 0).1 (σ k2 0).2 z2 0 n2]]:=by
   rw[hr.ev kp (by intro e;cases e)];simp only[DC,EJ,AH.get,ic,nk,A7.e6,A8,List.map_cons,List.map_nil,List.length_cons,List.length_nil];simp
  split at h
  ·rename_i key z' off len e
   cases ho:Nat.beq off 0<;>simp only[ho,cond_true,cond_false]at h;cases hz:Nat.beq z' 1<;>simp only[hz,cond_true,cond_false]at h;cases ig:Nat.beq z 1<;>simp only[ig,cond_true,cond_false]at h;cases ox:Nat.beq key k2<;>simp only[ox,cond_true,cond_false]at h;cases Fi:Nat.beq key ky<;>simp only[Fi,cond_true,cond_false]at h;cases Zc:Nat.beq k2 ky<;>simp only[Zc,cond_true,cond_false]at h;obtain rfl:=BJ.1 ho;obtain rfl:=BJ.1 hz;obtain rfl:=BJ.1 ig;split at h
   ·rename_i s2 z3 es fc
    cases Bo:Nat.beq z2 z3<;>simp only[Bo,cond_true,cond_false]at h;obtain rfl:=BJ.1 Bo;split at h
    ·rename_i s' rows hm
     rw[KB]at h;obtain ⟨rfl,rfl,g3,g4,h⟩:=h;obtain ⟨k,h1,h2,h3⟩:=GU h;have hs:=hr.sat.site _ _ _ hm;have y6:=hr.sat.e6 _ _ _ (DS hm);rw[hs]at y6;refine ⟨.cr (.row s' (st.own.g8 s') 1 0 (rows.length+1)) (st.own.put s' (((st.own s').o9 (σ key 0).2 none).new ⟨1,B4 σ key 0 rows++[[.row (σ k2 0).1 (σ k2 0).2 z2 0 es.length]]⟩)),_,_,_,λ C => ?_,h3,?_,hr.Dj (ky:=ky) hm fc (FM.1 ox) h1 h2⟩
     ·simp only[e7,uz,hr.ev e (by intro e;cases e),DC,AH.get,hs,y6,A7.e6]
      rw[if_pos (by simp),if_pos ⟨trivial,trivial,by rw[E4];exact Nat.le_refl _,by simpa using g3,by simpa using g4⟩];rw[zT (by rw[E4];exact Nat.le_refl _)];rfl
     ·simp only[B7.res,DC,BV]
    ·exact h.elim
   ·exact h.elim
  ·rename_i e
   cases dw:EU s<;>simp only[dw,cond_true,cond_false]at h;cases ig:Nat.beq z 1<;>simp only[ig,cond_true,cond_false]at h;obtain rfl:=BJ.1 ig;split at h
   ·rename_i s2 z3 es fc
    cases Bo:Nat.beq z2 z3<;>simp only[Bo,cond_true,cond_false]at h;obtain rfl:=BJ.1 Bo;rw[KB]at h;obtain ⟨⟨rfl,g3⟩,h⟩:=h;obtain ⟨k,h1,h2,h3⟩:=GU h;obtain ⟨σ',q1,q2⟩:=hr.He (q:=s) fc (λ e=>(N6 h1 _ _ _ fc).1 e.symm) h1 h2 dw;refine ⟨.cr (.row s (st.own.g8 s) 1 0 1) (st.own.put s ((st.own s).new ⟨1,[[.row (σ k2 0).1 (σ k2 0).2 z2 0 es.length]]⟩)),σ',_,_,λ C => ?_,h3,?_,q2⟩
    ·simp only[e7,uz,hr.ev e (by intro e;cases e),FJ]
     rw[if_pos (by simp),if_pos ⟨by simpa [EQ] using g3,by simp⟩];rfl
    ·simp only[B7.res,DC,q1]
   ·exact h.elim
  ·exact h.elim
 ·rename_i ky El
  obtain ⟨kp,sy,np⟩:=wD El;have ic:=hr.sat.site _ _ _ np;have nk:=hr.sat.e6 _ _ _ (DS np);rw[ic]at nk
  have uz:EJ st.own (st.ev y)=some [[.nil]]:=by
   rw[hr.ev kp (by intro e;cases e)];simp only[DC,EJ,AH.get,ic,nk,A7.e6,List.length_cons,List.length_nil];simp
  split at h
  ·rename_i key z' off len e
   cases ho:Nat.beq off 0<;>simp only[ho,cond_true,cond_false]at h;cases hz:Nat.beq z' 1<;>simp only[hz,cond_true,cond_false]at h;cases ig:Nat.beq z 1<;>simp only[ig,cond_true,cond_false]at h;cases Fi:Nat.beq key ky<;>simp only[Fi,cond_true,cond_false]at h;obtain rfl:=BJ.1 ho;obtain rfl:=BJ.1 hz;obtain rfl:=BJ.1 ig;split at h
   ·rename_i s' rows hm
    rw[KB]at h;obtain ⟨rfl,g3,g4,h⟩:=h;obtain ⟨k,h1,h2,h3⟩:=GU h;have hs:=hr.sat.site _ _ _ hm;have y6:=hr.sat.e6 _ _ _ (DS hm);rw[hs]at y6;refine ⟨.cr (.row s' (st.own.g8 s') 1 0 (rows.length+1)) (st.own.put s' (((st.own s').o9 (σ key 0).2 none).new ⟨1,B4 σ key 0 rows++[[.nil]]⟩)),_,_,_,λ C => ?_,h3,?_,hr.Dk hm h1 h2⟩
    ·simp only[e7,uz,hr.ev e (by intro e;cases e),DC,AH.get,hs,y6,A7.e6]
     rw[if_pos (by simp),if_pos ⟨trivial,trivial,by rw[E4];exact Nat.le_refl _,by simpa using g3,by simpa using g4⟩];rw[zT (by rw[E4];exact Nat.le_refl _)];rfl
    ·simp only[B7.res,DC,BV]
   ·exact h.elim
  ·rename_i e
   cases dw:EU s<;>simp only[dw,cond_true,cond_false]at h;cases ig:Nat.beq z 1<;>simp only[ig,cond_true,cond_false]at h;obtain rfl:=BJ.1 ig;obtain ⟨g3,h⟩:=h;obtain ⟨k,h1,h2,h3⟩:=GU h;have eg:A7.flat (.mx [none]):=by
    intro i x hx;cases i with
    | zero=>simp at hx
    | succ i=>simp at hx
   refine ⟨.cr (.row s (st.own.g8 s) 1 0 1) (st.own.put s ((st.own s).new ⟨1,[[.nil]]⟩)),_,_,_,λ C => ?_,h3,?_,hr.da h1 h2 (.mx [none]) eg rfl (λ_=>dw)⟩
   ·simp only[e7,uz,hr.ev e (by intro e;cases e),FJ]
    rw[if_pos (by simp),if_pos ⟨by simpa [EQ] using g3,by simp⟩];rfl
   ·simp only[B7.res,DC,BV]
  ·exact h.elim
 ·exact uV hr h
end
end Go.e9
