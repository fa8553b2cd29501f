/-
  The walk by computation is sound.
-/
import Derived.Test.YtpafclijakpknaaGreatB5
set_option linter.unusedSimpArgs false
set_option linter.unusedVariables false
set_option linter.unnecessarySimpa false
namespace Go.c9
theorem GU {a b:Nat}:Nat.beq a b=true↔a=b:=⟨Nat.eq_of_beq_eq_true,λ h=>by subst h;simp⟩
theorem OB {a b:Nat}:Nat.beq a b=false↔a≠b:=by
 constructor
 ·exact Nat.ne_of_beq_eq_false
 ·intro h
  cases e:Nat.beq a b
  ·rfl
  ·exact absurd (Nat.eq_of_beq_eq_true e) h
theorem bM (j:Nat) : ∀ tm:Tm,tg tm j=k7 tm j
 | []=>rfl
 | (i,v)::r=>by
  simp only[tg,Rj,bM j r];cases e:Nat.beq j i
  ·rw[if_neg (OB.1 e)];rfl
  ·rw[if_pos (GU.1 e)];rfl
theorem WY : ∀ (l:List AV) (K:List AV->Prop),fL l K=K l
 | [],_=>rfl
 | v::r,K=>by rw[fL,WY r]
theorem xI : ∀ (l:Tm) (K:Tm->Prop),fT l K=K l
 | [],_=>rfl
 | (i,v)::r,K=>by rw[fT,xI r]
theorem qB : ∀ (l:Mem) (K:Mem->Prop),fM l K=K l
 | [],_=>rfl
 | (k,s,c)::r,K=>by rw[fM,qB r]
theorem At5 (n:Nat) (K:Nat->Prop):fN n K=K n:=by cases n<;>rfl
theorem AdJ (m i:Nat):bit m i=m.testBit i:=by
 have h:Nat.land (Nat.shiftRight m i) 1=(m >>> i)%2:=Nat.and_one_is_mod (m >>> i);have ht:m.testBit i=decide ((m >>> i)%2=1):=by
  rw[Nat.testBit,Nat.and_comm,Nat.and_one_is_mod];rcases Nat.mod_two_eq_zero_or_one (m >>> i) with e|e<;>simp [e]
 unfold bit;rw[h,ht];rcases Nat.mod_two_eq_zero_or_one (m >>> i) with e|e<;>rw[e]<;>rfl
theorem Aii (m i j:Nat):bit (Nat.lor m (Nat.shiftLeft 1 i)) j=(bit m j||decide (j=i)):=by
 rw[AdJ,AdJ];show (m ||| (1 <<< i)).testBit j=_;rw[Nat.testBit_or,Nat.testBit_shiftLeft];congr 1;by_cases h:j=i
 ·subst h;simp
 ·by_cases h2:j≥i
  ·obtain ⟨d,rfl⟩ : ∃ d,j=i+d+1:=⟨j-i-1,by omega⟩
   rw[show i+d+1-i=d+1 by omega,Nat.testBit_succ];simp [h]
  ·simp [h2,h]
theorem Aih : ∀ (ts:List Nat) (m j:Nat),bit (mask m ts) j=(bit m j||ts.contains j)
 | [],m,j=>by simp [mask]
 | t::ts,m,j=>by
  rw[mask,Aih ts,Aii,List.contains_cons,Bool.or_assoc];congr 2
theorem AdK (j:Nat):bit 0 j=false:=by rw[AdJ];simp
theorem Rh (j:Nat) : ∀ (tm:Tm) (m:Nat),tg (Gp m tm) j=bif bit m j then .any else tg tm j
 | [],m=>by cases bit m j<;>rfl
 | (i,v)::r,m=>by
  simp only[Gp];cases hb:bit m i
  ·simp only[cond_false,tg,Rh j r,Aii]
   cases hj:Nat.beq j i
   ·have:decide (j=i)=false:=by simpa using OB.1 hj
    simp only[cond_false,this,Bool.or_false]
   ·obtain rfl:=GU.1 hj
    simp only[cond_true,hb,cond_false]
  ·simp only[cond_true,tg,Rh j r]
   cases hj:Nat.beq j i
   ·rfl
   ·obtain rfl:=GU.1 hj
    simp only[hb,cond_true]
theorem Ab1 {v:AV} {K:AV->Prop} (h:fV v K):v ≠ .any/\K v:=by
 cases v<;>simp only[fV,WY]at h<;>first|exact h.elim|exact ⟨(by intro e;cases e),h⟩
theorem Ab0 {v:AV} {K:List AV->Prop} (h:fC v K):v ≠ .any /\ ∃ cs,cellsOf v=some cs/\K cs:=by
 cases v<;>simp only[fC,fV,WY]at h<;>first|exact h.elim|exact ⟨(by intro e;cases e),_,rfl,h⟩
theorem rR (b:Bool) (K:Bool->Prop):fB b K=K b:=by cases b<;>rfl
theorem Aoq {k:Nat} {tm:Tm} {M:Mem} (h:used k tm M=false):QV k M=false/\X6 k tm=false:=by
 unfold used at h;cases h1:QV k M<;>simp only[h1,cond_true,cond_false]at h
 ·exact ⟨rfl,h⟩
 ·cases h
theorem AmD {tm:Tm} {M:Mem} {K:Nat->Prop} : ∀ {l:List Nat},Acv tm M l K -> ∃ k,QV k M=false/\X6 k tm=false/\K k
 | [],h=>h.elim
 | k::r,h=>by
  simp only[Acv]at h;cases h0:used k tm M<;>simp only[h0,cond_true,cond_false]at h
  ·exact ⟨k,(Aoq h0).1,(Aoq h0).2,h⟩
  ·exact AmD h
theorem ZU {s:Nat} {tm:Tm} {M:Mem} {K:Nat->Prop} (h:RP s tm M K) : ∃ k,QV k M=false/\X6 k tm=false/\K k:=AmD h
section
variable {σ:OA}
def JH (σ:OA) (k:Nat) (f:Nat->Nat × Nat):OA:=λ j t=>if j=k then f t else σ j t
theorem IW {k j:Nat} (f:Nat->Nat × Nat) (h:j≠k):JH σ k f j=σ j:=by funext t;simp [JH,h]
theorem HK (k:Nat) (f:Nat->Nat × Nat):JH σ k f k=f:=by funext t;simp [JH]
theorem Ag6 {k:Nat} {p:Nat->Nat × Nat} {v:AV} (h:mK k v=false):E7 (JH σ k p) v=E7 σ v:=by
 cases v with
 | row j t z o n=>simp only[mK]at h;simp only[E7,IW p (OB.1 h)]
 | ptr j t a b=>simp only[mK]at h;simp only[E7,IW p (OB.1 h)]
 | _=>rfl
theorem yS {k:Nat} {p:Nat->Nat × Nat} : ∀ {cs:List AV},ZI k cs=false->cs.map (E7 (JH σ k p))=cs.map (E7 σ)
 | [],_=>rfl
 | c::r,h=>by
  simp only[ZI]at h;cases h1:mK k c<;>simp only[h1,cond_true,cond_false]at h
  ·rw[List.map_cons,List.map_cons,Ag6 h1,yS h]
  ·cases h
theorem AgZ {k:Nat} {p:Nat->Nat × Nat} : ∀ {es:List (List AV)},sI k es=false->(es.map λ cs=>cs.map (E7 (JH σ k p)))=es.map λ cs=>cs.map (E7 σ)
 | [],_=>rfl
 | c::r,h=>by
  simp only[sI]at h;cases h1:ZI k c<;>simp only[h1,cond_true,cond_false]at h
  ·rw[List.map_cons,List.map_cons,yS h1,AgZ h]
  ·cases h
theorem Qx {k:Nat} {p:Nat->Nat × Nat} {v:AV} (h:qO k v=false):GD (JH σ k p) v=GD σ v:=by
 cases v with
 | agg cs=>simp only[qO]at h;simp only[GD,yS h]
 | fn p f g cs=>simp only[qO]at h;simp only[GD,yS h]
 | row a b c d e=>exact Ag6 (v := .row a b c d e) h
 | ptr a b c d=>exact Ag6 (v := .ptr a b c d) h
 | _=>rfl
theorem AnG {k:Nat} {p:Nat->Nat × Nat} : ∀ {cs:List AV},yJ k cs=false->cs.map (GD (JH σ k p))=cs.map (GD σ)
 | [],_=>rfl
 | c::r,h=>by
  simp only[yJ]at h;cases h1:qO k c<;>simp only[h1,cond_true,cond_false]at h
  ·rw[List.map_cons,List.map_cons,Qx h1,AnG h]
  ·cases h
theorem Ac1 {k:Nat} {p:Nat->Nat × Nat} {v:AV} (h:mL k v=false):FG (JH σ k p) v=FG σ v:=by
 cases v with
 | j5 cs=>simp only[mL]at h;simp only[FG,AnG h]
 | agg cs=>exact Qx (v := .agg cs) h
 | fn p f g cs=>exact Qx (v := .fn p f g cs) h
 | row a b c d e=>exact Qx (v := .row a b c d e) h
 | ptr a b c d=>exact Qx (v := .ptr a b c d) h
 | _=>rfl
theorem yL {k:Nat} : ∀ {tm:Tm},X6 k tm=false -> ∀ j,mL k (tg tm j)=false
 | [],_,_=>rfl
 | (i,v)::r,h,j=>by
  simp only[X6]at h;cases h1:mL k v<;>simp only[h1,cond_true,cond_false]at h
  ·simp only[tg]
   cases Nat.beq j i
   ·exact yL h j
   ·exact h1
  ·cases h
theorem uT {k:Nat} : ∀ {M:Mem},QV k M=false -> ∀ j s c,g7 M j=some (s,c)->j≠k/\X5 k c=false
 | [],_,_,_,_,e=>by cases e
 | (i,s0,c0)::r,h,j,s,c,e=>by
  simp only[QV]at h;cases h0:Nat.beq k i<;>simp only[h0,cond_true,cond_false]at h
  ·cases h1:X5 k c0<;>simp only[h1,cond_true,cond_false]at h
   ·simp only[g7]at e
    cases h2:Nat.beq j i<;>simp only[h2,cond_true,cond_false]at e
    ·exact uT h j s c e
    ·simp only[Option.some.injEq,Prod.mk.injEq]at e
     obtain ⟨_,rfl⟩:=e;exact ⟨λ e=>OB.1 h0 (e.symm.trans (GU.1 h2)),h1⟩
   ·cases h
  ·cases h
theorem sE {σ σ':OA} {k:Nat} : ∀ (rows:List (Option (Nat × List (List AV)))) (i:Nat),(∀ j,i<=j->σ k (j+1)=σ' k (j+1))->IE σ k i rows=IE σ' k i rows
 | [],i,h=>rfl
 | none::r,i,h=>by rw[IE,IE,sE r (i+1) λ j hj=>h j (by omega)]
 | some (z,es)::r,i,h=>by rw[IE,IE,sE r (i+1) λ j hj=>h j (by omega),h i (by omega)]
theorem V5 {k:Nat} : ∀ (rows:List (Option (Nat × List (List AV)))) (i j:Nat),(IE σ k i rows)[j]? = (rows[j]?).map λ r=>match r with|none=>[.nil]|some (z,es)=>[.row (σ k (i+j+1)).1 (σ k (i+j+1)).2 z 0 es.length]
 | [],i,j=>by simp [IE]
 | none::r,i,0=>by simp [IE]
 | none::r,i,j+1=>by simp only[IE,List.getElem?_cons_succ,V5 r (i+1) j];rw[show i+1+j=i+(j+1) by omega]
 | some (z,es)::r,i,0=>by simp [IE]
 | some (z,es)::r,i,j+1=>by simp only[IE,List.getElem?_cons_succ,V5 r (i+1) j];rw[show i+1+j=i+(j+1) by omega]
theorem PJ {k:Nat} : ∀ (rows:List (Option (Nat × List (List AV)))) (i:Nat),(IE σ k i rows).length=rows.length
 | [],i=>rfl
 | none::r,i=>by simp [IE,PJ r]
 | some (z,es)::r,i=>by simp [IE,PJ r]
theorem Aby {k j:Nat} {f:Nat->Nat × Nat} {c:FB} (h:X5 k c=false) (hj:j≠k):c.k8 (JH σ k f) j=c.k8 σ j:=by
 cases c with
 | bx cs=>simp only[X5]at h;simp only[FB.k8,yS h]
 | rw z es=>rfl
 | bs z es=>simp only[X5]at h;simp only[FB.k8,AgZ h]
 | mx rows=>simp only[FB.k8];rw[sE rows 0 λ i _=>by rw[IW f hj]]
 | hx a v rows=>simp only[FB.k8];rw[sE rows 0 λ i _=>by rw[IW f hj]]
 | vw w rows=>simp only[FB.k8];rw[sE rows 0 λ i _=>by rw[IW f hj]]
theorem ArB {v:AV} (h:Ea v=true):E7 σ v=v:=by cases v<;>first|rfl|cases h
theorem Z5 : ∀ {cs:List AV},LX cs=true->cs.map (E7 σ)=cs
 | [],_=>rfl
 | c::r,h=>by
  simp only[LX]at h;cases h1:Ea c<;>simp only[h1,cond_true,cond_false]at h
  ·cases h
  ·rw[List.map_cons,ArB h1,Z5 h]
theorem ArA {k:Nat} {v:AV} (h:Ea v=true):mK k v=false:=by cases v<;>first|rfl|cases h
theorem Aec {k:Nat} : ∀ {cs:List AV},LX cs=true->ZI k cs=false
 | [],_=>rfl
 | c::r,h=>by
  simp only[LX]at h;cases h1:Ea c<;>simp only[h1,cond_true,cond_false]at h
  ·cases h
  ·simp only[ZI,ArA h1,Aec h,cond_false]
theorem Ary (v:AV):cv v = .any\/(cv v=v/\FG σ v=v):=by
 cases v with
 | agg cs =>
  simp only[cv];cases h:LX cs
  ·exact Or.inl rfl
  ·exact Or.inr ⟨rfl,by simp only[FG,GD,Z5 h]⟩
 | j5 vs=>cases vs with
  | nil=>exact Or.inr ⟨rfl,rfl⟩
  | cons=>exact Or.inl rfl
 | fn p f g cs=>cases cs with
  | nil=>exact Or.inr ⟨rfl,rfl⟩
  | cons=>exact Or.inl rfl
 | _=>first|exact Or.inl rfl|exact Or.inr ⟨rfl,rfl⟩
theorem Aru {k:Nat} (v:AV):mL k (cv v)=false:=by
 cases v with
 | agg cs =>
  simp only[cv];cases h:LX cs
  ·rfl
  ·exact Aec h
 | j5 vs=>cases vs<;>rfl
 | fn p f g cs=>cases cs<;>rfl
 | _=>rfl
variable {tm:Tm} {M:Mem} {st:St}
theorem RX.ev (h:RX σ tm M st) {x:C4} {v:AV} (e:ex tm x=v) (hv:v ≠ .any):st.ev x=FG σ v:=by
 cases x with
 | t n =>
  simp only[ex]at e;rcases h.tm n with h|h
  ·exact absurd (e.symm.trans h) hv
  ·rw[e]at h;exact h
 | c u =>
  simp only[ex]at e;rcases Ary (σ:=σ) u with h|⟨h,h'⟩
  ·exact absurd (e.symm.trans h) hv
  ·rw[<-e,h,h'];rfl
theorem Akx {k:Nat} (h:X6 k tm=false) (x:C4):mL k (ex tm x)=false:=by
 cases x with
 | t n=>exact yL h n
 | c u=>exact Aru u
theorem AmV {k:Nat} {v:AV} {cs:List AV} (h:mL k v=false) (e:cellsOf v=some cs):ZI k cs=false:=by
 cases v<;>simp only[cellsOf,Option.some.injEq,reduceCtorEq]at e<;>subst e<;>first|exact h|rfl|(simp only[mL,qO]at h;simp only[ZI,h,cond_false])
theorem rE {v:AV} {cs:List AV} (e:cellsOf v=some cs):cellsOf (FG σ v)=some (cs.map (E7 σ)):=by
 cases v<;>simp only[cellsOf,Option.some.injEq,reduceCtorEq]at e<;>subst e<;>rfl
def FB.flat:FB->Prop
 | .mx rows => ∀ (i:Nat) (x:Nat × List (List AV)),rows[i]? = some (some x)->False
 | .hx _ _ _=>False
 | .vw _ _=>False
 | _=>True
theorem MI {M:Mem} {k s:Nat} {c:FB} (h:g7 M k=some (s,c)):g6 M k 0=some c:=by simp [g6,h]
theorem XY {M:Mem} {k t:Nat} {c:FB} (h:g6 M k t=some c) : ∃ s c0,g7 M k=some (s,c0)/\(t=0->c=c0)/\(∀ i,t=i+1 -> ∃ rows z es,((c0 = .mx rows \/ ∃ a v,c0 = .hx a v rows) \/ ∃ w,c0 = .vw w rows)/\rows[i]? = some (some (z,es))/\c = .rw z es):=by
 unfold g6 at h;cases hm:g7 M k with
 | none=>simp [hm]at h
 | some x =>
  obtain ⟨s,c0⟩:=x;simp only[hm]at h;refine ⟨s,c0,rfl,?_,?_⟩
  ·rintro rfl;exact (Option.some.inj h).symm
  ·rintro i rfl
   cases c0 with
   | mx rows =>
    simp only at h;cases hr:rows[i]? with
    | none=>simp [hr]at h
    | some r =>
     cases r with
     | none=>simp [hr]at h
     | some ze=>obtain ⟨z,es⟩:=ze;simp only[hr,Option.some.injEq]at h;exact ⟨rows,z,es,Or.inl (Or.inl rfl),hr,h.symm⟩
   | hx a v rows =>
    simp only at h;cases hr:rows[i]? with
    | none=>simp [hr]at h
    | some r =>
     cases r with
     | none=>simp [hr]at h
     | some ze=>obtain ⟨z,es⟩:=ze;simp only[hr,Option.some.injEq]at h;exact ⟨rows,z,es,Or.inl (Or.inr ⟨a,v,rfl⟩),hr,h.symm⟩
   | vw w rows =>
    simp only at h;cases hr:rows[i]? with
    | none=>simp [hr]at h
    | some r =>
     cases r with
     | none=>simp [hr]at h
     | some ze=>obtain ⟨z,es⟩:=ze;simp only[hr,Option.some.injEq]at h;exact ⟨rows,z,es,Or.inr ⟨w,rfl⟩,hr,h.symm⟩
   | _=>simp at h
theorem qM {M:Mem} {k s:Nat} {c:FB} {j t:Nat} (h:j≠k):g6 ((k,s,c)::M) j t=g6 M j t:=by
 simp only[g6,g7,OB.2 h,cond_false]
theorem xY {M:Mem} {k s:Nat} {c:FB}:g6 ((k,s,c)::M) k 0=some c:=by simp [g6,g7]
theorem xZ {M:Mem} {k s:Nat} {c:FB} (hc:c.flat) {t:Nat} {c':FB} (h:g6 ((k,s,c)::M) k t=some c'):t=0/\c'=c:=by
 cases t with
 | zero=>rw[xY]at h;exact ⟨rfl,(Option.some.inj h).symm⟩
 | succ i =>
  simp only[g6,g7,Nat.beq_refl,cond_true]at h;cases c with
  | mx rows =>
   simp only at h;split at h
   ·rename_i z es hr
    exact (hc i (z,es) hr).elim
   ·cases h
  | hx a v rows=>exact hc.elim
  | vw w rows=>exact hc.elim
  | _=>simp at h
theorem AvR {σ σ':OA} {k k':Nat} {rows:List (Option (Nat × List (List AV)))} (h:FB.flat (.mx rows)):IE σ k 0 rows=IE σ' k' 0 rows:=by
 apply List.ext_getElem?;intro j;rw[V5,V5];cases hr:rows[j]? with
 | none=>rfl
 | some r=>cases r with
  | none=>rfl
  | some x=>exact (h j x hr).elim
theorem RX.rk (h:RX σ tm M st) {s q:Nat} (hm:QV s M=false) (ht:X6 s tm=false) (c:FB) (hf:c.flat) (hc:X5 s c=false) (hl:c.xv=true->OM q=true) :
  RX (JH σ s λ_=>(q,st.own.k9 q)) tm ((s,q,c)::M) ⟨st.tm,st.own.put q ((st.own q).new (c.k8 σ s))⟩:=by
 have AEx : ∀ j t c',g6 M j t=some c'->((st.own.put q ((st.own q).new (c.k8 σ s))) (σ j t).1).k8 (σ j t).2=(st.own (σ j t).1).k8 (σ j t).2:=by
  intro j t c' e;by_cases hs:(σ j t).1=q
  ·have ho:=h.sat.old _ _ _ e
   rw[hs]at ho ⊢;simp only[C2.n6,H1.new];rw[if_neg (by omega)]
  ·rw[C2.nv _ _ _ _ hs]
 have Mu : ∀ s',(st.own s').k9<=((st.own.put q ((st.own q).new (c.k8 σ s))) s').k9:=by
  intro s';by_cases hs:s'=q
  ·subst hs;simp only[C2.n6,H1.new];omega
  ·rw[C2.nv _ _ _ _ hs];exact Nat.le_refl _
 have u5 : ∀ j t c',j≠s->g6 ((s,q,c)::M) j t=some c'->g6 M j t=some c':=λ j t c' hj e=>by rwa [qM hj]at e
 have Oi : ∀ j t c',g6 M j t=some c'->X5 s c'=false/\j≠s:=by
  intro j t c' e;obtain ⟨s1,c0,g1,g2,g3⟩:=XY e;obtain ⟨g4,g5⟩:=uT hm _ _ _ g1;refine ⟨?_,g4⟩;cases t with
  | zero=>rw[g2 rfl];exact g5
  | succ i=>obtain ⟨rows,z,es,_,_,rfl⟩:=g3 i rfl;rfl
 refine ⟨λ j => ?_,⟨?_,?_,?_,?_,?_⟩⟩
 ·rw[Ac1 (yL ht j)];exact h.tm j
 ·intro j s' c' e
  simp only[g7]at e;cases hb:Nat.beq j s<;>simp only[hb,cond_true,cond_false]at e
  ·rw[IW _ (OB.1 hb)];exact h.sat.site _ _ _ e
  ·simp only[Option.some.injEq,Prod.mk.injEq]at e
   obtain ⟨rfl,rfl⟩:=e;rw[GU.1 hb,HK]
 ·intro j t c' e
  by_cases hj:j=s
  ·subst hj
   obtain ⟨rfl,rfl⟩:=xZ hf e;have hb:c'.k8 (JH σ j λ_=>(q,st.own.k9 q)) j=c'.k8 σ j:=by
    cases c' with
    | bx cs=>simp only[X5]at hc;simp only[FB.k8,yS hc]
    | rw z es=>rfl
    | bs z es=>simp only[X5]at hc;simp only[FB.k8,AgZ hc]
    | mx rows=>exact congrArg (LS.mk 1) (AvR hf)
    | hx a v rows=>exact hf.elim
    | vw w rows=>exact hf.elim
   rw[HK,hb];simp [C2.n6,H1.new,C2.k9]
  ·have e':=u5 j t c' hj e
   rw[IW _ hj,Aby (Oi j t c' e').1 hj];exact (AEx j t c' e').trans (h.sat.k8 _ _ _ e')
 ·intro j t c' e
  by_cases hj:j=s
  ·subst hj
   rw[HK];simp [C2.n6,H1.new,C2.k9]
  ·have e':=u5 j t c' hj e
   rw[IW _ hj];exact Nat.lt_of_lt_of_le (h.sat.old _ _ _ e') (Mu _)
 ·have wg : ∀ j t c',g6 M j t=some c'->σ j t=(q,st.own.k9 q)->False:=by
   intro j t c' e hh;have h2:=h.sat.old _ _ _ e;rw[hh]at h2;exact absurd h2 (Nat.lt_irrefl _)
  intro j t j' t' c1 c2 e1 e2 hj;by_cases h1:j=s<;>by_cases h2:j'=s
  ·subst h1;subst h2
   exact ⟨rfl,(xZ hf e1).1.trans (xZ hf e2).1.symm⟩
  ·subst h1
   rw[HK,IW _ h2]at hj;exact (wg _ _ _ (u5 _ _ _ h2 e2) hj.symm).elim
  ·subst h2
   rw[HK,IW _ h1]at hj;exact (wg _ _ _ (u5 _ _ _ h1 e1) hj).elim
  ·rw[IW _ h1,IW _ h2]at hj
   exact h.sat.inj _ _ _ _ _ _ (u5 _ _ _ h1 e1) (u5 _ _ _ h2 e2) hj
 ·intro j t c' e hw
  by_cases hj:j=s
  ·subst hj
   obtain ⟨rfl,rfl⟩:=xZ hf e;rw[HK];exact hl hw
  ·rw[IW _ hj];exact h.sat.low _ _ _ (u5 j t c' hj e) hw
theorem oE {k j:Nat} {x:Nat × FB} : ∀ {M:Mem},g7 (bg k M) j=some x->j≠k/\g7 M j=some x
 | [],e=>by cases e
 | (i,s,c)::r,e=>by
  simp only[bg]at e;cases hb:Nat.beq k i<;>simp only[hb,cond_true,cond_false]at e
  ·simp only[g7]at e ⊢
   cases hj:Nat.beq j i<;>simp only[hj,cond_true,cond_false]at e ⊢
   ·exact oE e
   ·exact ⟨λ e'=>OB.1 hb (e'.symm.trans (GU.1 hj)),e⟩
  ·obtain ⟨h1,h2⟩:=oE e
   refine ⟨h1,?_⟩;simp only[g7];rw[OB.2 (λ e'=>h1 (e'.trans (GU.1 hb).symm))];exact h2
theorem yG {own:C2} {p:Nat × Nat} {x:Option LS} {q:Nat × Nat} (h:q≠p):((own.put p.1 ((own p.1).cr p.2 x)) q.1).k8 q.2=(own q.1).k8 q.2:=by
 by_cases hs:q.1=p.1
 ·rw[hs,C2.n6]
  simp only[H1.cr];rw[if_neg (λ e=>h (Prod.ext hs e))]
 ·rw[C2.nv _ _ _ _ hs]
theorem Af7 {own:C2} {p:Nat × Nat} {x:Option LS}:((own.put p.1 ((own p.1).cr p.2 x)) p.1).k8 p.2=x:=by simp [C2.n6,H1.cr]
theorem Acx {own:C2} {p:Nat × Nat} {x:Option LS} (s:Nat):((own.put p.1 ((own p.1).cr p.2 x)) s).k9=(own s).k9:=by
 by_cases hs:s=p.1
 ·subst hs;rw[C2.n6];rfl
 ·rw[C2.nv _ _ _ _ hs]
theorem RX.stq (h:RX σ tm M st) {k s:Nat} {c:FB} (e:g7 M k=some (s,c)) (hf:c.flat) (c':FB) (xg:c'.flat) (hir:c'.xv=true->c.xv=true) :
  RX σ tm ((k,s,c')::M) ⟨st.tm,st.own.put s ((st.own s).cr (σ k 0).2 (some (c'.k8 σ k)))⟩:=by
 have hs:=h.sat.site _ _ _ e;subst hs;have e0:=MI e;have hg : ∀ j t c1,g6 ((k,(σ k 0).1,c')::M) j t=some c1->(j=k/\t=0/\c1=c')\/(j≠k/\g6 M j t=some c1):=by
  intro j t c1 e1;by_cases hj:j=k
  ·subst hj
   obtain ⟨rfl,rfl⟩:=xZ xg e1;exact Or.inl ⟨rfl,rfl,rfl⟩
  ·rw[qM hj]at e1
   exact Or.inr ⟨hj,e1⟩
 have Ha : ∀ j t c1,g6 ((k,(σ k 0).1,c')::M) j t=some c1 -> ∃ c2,g6 M j t=some c2:=by
  intro j t c1 e1;rcases hg j t c1 e1 with ⟨rfl,rfl,rfl⟩|⟨_,h2⟩
  ·exact ⟨c,e0⟩
  ·exact ⟨c1,h2⟩
 refine ⟨h.tm,⟨?_,?_,?_,?_,?_⟩⟩
 ·intro j s' c1 e1
  simp only[g7]at e1;cases hb:Nat.beq j k<;>simp only[hb,cond_true,cond_false]at e1
  ·exact h.sat.site _ _ _ e1
  ·simp only[Option.some.injEq,Prod.mk.injEq]at e1
   rw[GU.1 hb];exact e1.1
 ·intro j t c1 e1
  rcases hg j t c1 e1 with ⟨rfl,rfl,rfl⟩|⟨h1,h2⟩
  ·exact Af7
  ·refine (yG (λ he => ?_)).trans (h.sat.k8 _ _ _ h2)
   exact h1 (h.sat.inj _ _ _ _ _ _ h2 e0 he).1
 ·intro j t c1 e1
  obtain ⟨c2,e2⟩:=Ha _ _ _ e1;show (σ j t).2<((st.own.put (σ k 0).1 ((st.own (σ k 0).1).cr (σ k 0).2 (some (c'.k8 σ k)))) (σ j t).1).k9;rw[Acx];exact h.sat.old _ _ _ e2
 ·intro j t j' t' c1 c2 e1 e2 hj
  obtain ⟨_,e1'⟩:=Ha _ _ _ e1;obtain ⟨_,Wi⟩:=Ha _ _ _ e2;exact h.sat.inj _ _ _ _ _ _ e1' Wi hj
 ·intro j t c1 e1 hw
  rcases hg j t c1 e1 with ⟨rfl,rfl,rfl⟩|⟨_,h2⟩
  ·exact h.sat.low _ _ _ e0 (hir hw)
  ·exact h.sat.low _ _ _ h2 hw
theorem Amf {k t:Nat} {c:FB} (h:g6 M k (t+1)=some c):c.xv=true:=by
 obtain ⟨_,_,_,_,g3⟩:=XY h;obtain ⟨_,_,_,_,_,rfl⟩:=g3 t rfl;rfl
theorem fK {k j t:Nat} {c:FB} (h:g6 (bg k M) j t=some c):j≠k/\g6 M j t=some c:=by
 obtain ⟨s,c0,g1,_⟩:=XY h;obtain ⟨h1,h2⟩:=oE g1;refine ⟨h1,?_⟩;unfold g6 at h ⊢;rw[g1]at h;rw[h2];exact h
theorem RX.kill (h:RX σ tm M st) {k s:Nat} {c:FB} (e:g7 M k=some (s,c)) :
  RX σ tm (bg k M) ⟨st.tm,st.own.put s ((st.own s).cr (σ k 0).2 none)⟩:=by
 have hs:=h.sat.site _ _ _ e;subst hs;have e0:=MI e;refine ⟨h.tm,⟨?_,?_,?_,?_,?_⟩⟩
 ·intro j s' c1 e1
  exact h.sat.site _ _ _ (oE e1).2
 ·intro j t c1 e1
  obtain ⟨hj,e1⟩:=fK e1;refine (yG (λ he => ?_)).trans (h.sat.k8 _ _ _ e1);exact hj (h.sat.inj _ _ _ _ _ _ e1 e0 he).1
 ·intro j t c1 e1
  obtain ⟨hj,e1⟩:=fK e1;show (σ j t).2<((st.own.put (σ k 0).1 ((st.own (σ k 0).1).cr (σ k 0).2 none)) (σ j t).1).k9;rw[Acx];exact h.sat.old _ _ _ e1
 ·intro j t j' t' c1 c2 e1 e2 hj
  exact h.sat.inj _ _ _ _ _ _ (fK e1).2 (fK e2).2 hj
 ·intro j t c1 e1 hw
  exact h.sat.low _ _ _ (fK e1).2 hw
theorem RX.AE8 (h:RX σ tm M st) {k s i z:Nat} {rows:List (Option (Nat × List (List AV)))} {es es':List (List AV)} (e:g7 M k=some (s,.mx rows)) (hr:rows[i]? = some (some (z,es))) (hl:es'.length=es.length) :
  RX σ tm ((k,s,.mx (rows.set i (some (z,es'))))::M) ⟨st.tm,st.own.put (σ k (i+1)).1 ((st.own (σ k (i+1)).1).cr (σ k (i+1)).2 (some ⟨z,es'⟩))⟩:=by
 have e1:g6 M k (i+1)=some (.rw z es):=by simp [g6,e,hr]
 have hi:i<rows.length:=(zS hr).1;have rf:IE σ k 0 (rows.set i (some (z,es')))=IE σ k 0 rows:=by
  apply List.ext_getElem?;intro j;rw[V5,V5];by_cases hj:i=j
  ·subst hj;rw[List.getElem?_set_self hi,hr];simp [hl]
  ·rw[List.getElem?_set_ne hj]
 have hg : ∀ j t c1,g6 ((k,s,.mx (rows.set i (some (z,es'))))::M) j t=some c1->(j=k/\t=i+1/\c1 = .rw z es')\/(¬ (j=k/\t=i+1) /\ ∃ c2,g6 M j t=some c2/\c2.k8 σ j=c1.k8 σ j):=by
  intro j t c1 g;by_cases hj:j=k
  ·subst hj
   cases t with
   | zero =>
    rw[xY]at g;obtain rfl:=Option.some.inj g;exact Or.inr ⟨by omega,_,MI e,by simp only[FB.k8,rf]⟩
   | succ t =>
    simp only[g6,g7,Nat.beq_refl,cond_true]at g;by_cases Du:i=t
    ·subst Du
     rw[List.getElem?_set_self hi]at g;exact Or.inl ⟨rfl,rfl,(Option.some.inj g).symm⟩
    ·rw[List.getElem?_set_ne Du]at g
     refine Or.inr ⟨by omega,c1,?_,rfl⟩;simp only[g6,e];exact g
  ·rw[qM hj]at g
   exact Or.inr ⟨by omega,c1,g,rfl⟩
 have Ha : ∀ j t c1,g6 ((k,s,.mx (rows.set i (some (z,es'))))::M) j t=some c1 -> ∃ c2,g6 M j t=some c2:=by
  intro j t c1 g;rcases hg j t c1 g with ⟨rfl,rfl,rfl⟩|⟨_,c2,h2,_⟩
  ·exact ⟨_,e1⟩
  ·exact ⟨c2,h2⟩
 refine ⟨h.tm,⟨?_,?_,?_,?_,?_⟩⟩
 ·intro j s' c1 g
  simp only[g7]at g;cases hb:Nat.beq j k<;>simp only[hb,cond_true,cond_false]at g
  ·exact h.sat.site _ _ _ g
  ·simp only[Option.some.injEq,Prod.mk.injEq]at g
   rw[GU.1 hb,<-g.1];exact h.sat.site _ _ _ e
 ·intro j t c1 g
  rcases hg j t c1 g with ⟨rfl,rfl,rfl⟩|⟨h1,c2,h2,h3⟩
  ·exact Af7
  ·rw[<-h3]
   refine (yG (λ he => ?_)).trans (h.sat.k8 _ _ _ h2);exact h1 (h.sat.inj _ _ _ _ _ _ h2 e1 he)
 ·intro j t c1 g
  obtain ⟨c2,e2⟩:=Ha _ _ _ g;show (σ j t).2<((st.own.put (σ k (i+1)).1 ((st.own (σ k (i+1)).1).cr (σ k (i+1)).2 (some ⟨z,es'⟩))) (σ j t).1).k9;rw[Acx];exact h.sat.old _ _ _ e2
 ·intro j t j' t' c1 c2 g1 g2 hj
  obtain ⟨_,e1'⟩:=Ha _ _ _ g1;obtain ⟨_,Wi⟩:=Ha _ _ _ g2;exact h.sat.inj _ _ _ _ _ _ e1' Wi hj
 ·intro j t c1 g hw
  obtain ⟨c2,e2⟩:=Ha _ _ _ g;cases t with
  | zero =>
   by_cases hj:j=k
   ·subst hj;exact h.sat.low _ _ _ (MI e) rfl
   ·rw[qM hj]at g;exact h.sat.low _ _ _ g hw
  | succ t=>exact h.sat.low _ _ _ e2 (Amf e2)
section
variable {k:Nat} {f:Nat->Nat × Nat}
theorem Ag0 {v:AV} (hf:f 0=σ k 0) (h:pR k v=false):E7 (JH σ k f) v=E7 σ v:=by
 cases v with
 | row j t z o n =>
  simp only[pR]at h;cases hb:Nat.beq j k
  ·simp only[E7,IW f (OB.1 hb)]
  ·obtain rfl:=GU.1 hb
   simp only[hb,cond_true]at h;cases t with
   | zero=>simp only[E7,HK,hf]
   | succ t=>cases h
 | ptr j t a b =>
  simp only[pR]at h;cases hb:Nat.beq j k
  ·simp only[E7,IW f (OB.1 hb)]
  ·obtain rfl:=GU.1 hb
   simp only[hb,cond_true]at h;cases t with
   | zero=>simp only[E7,HK,hf]
   | succ t=>cases h
 | _=>rfl
theorem Qt (hf:f 0=σ k 0) : ∀ {cs:List AV},nQ k cs=false->cs.map (E7 (JH σ k f))=cs.map (E7 σ)
 | [],_=>rfl
 | c::r,h=>by
  simp only[nQ]at h;cases h1:pR k c<;>simp only[h1,cond_true,cond_false]at h
  ·rw[List.map_cons,List.map_cons,Ag0 hf h1,Qt hf h]
  ·cases h
theorem AnD (hf:f 0=σ k 0) : ∀ {es:List (List AV)},wI k es=false->(es.map λ cs=>cs.map (E7 (JH σ k f)))=es.map λ cs=>cs.map (E7 σ)
 | [],_=>rfl
 | c::r,h=>by
  simp only[wI]at h;cases h1:nQ k c<;>simp only[h1,cond_true,cond_false]at h
  ·rw[List.map_cons,List.map_cons,Qt hf h1,AnD hf h]
  ·cases h
theorem Qv {v:AV} (hf:f 0=σ k 0) (h:tM k v=false):GD (JH σ k f) v=GD σ v:=by
 cases v with
 | agg cs=>simp only[tM]at h;simp only[GD,Qt hf h]
 | fn p f g cs=>simp only[tM]at h;simp only[GD,Qt hf h]
 | row a b c d e=>exact Ag0 (v := .row a b c d e) hf h
 | ptr a b c d=>exact Ag0 (v := .ptr a b c d) hf h
 | _=>rfl
theorem AnE (hf:f 0=σ k 0) : ∀ {cs:List AV},wD k cs=false->cs.map (GD (JH σ k f))=cs.map (GD σ)
 | [],_=>rfl
 | c::r,h=>by
  simp only[wD]at h;cases h1:tM k c<;>simp only[h1,cond_true,cond_false]at h
  ·rw[List.map_cons,List.map_cons,Qv hf h1,AnE hf h]
  ·cases h
theorem Axk {v:AV} (hf:f 0=σ k 0) (h:rF k v=false):FG (JH σ k f) v=FG σ v:=by
 cases v with
 | j5 cs=>simp only[rF]at h;simp only[FG,AnE hf h]
 | agg cs=>exact Qv (v := .agg cs) hf h
 | fn p f g cs=>exact Qv (v := .fn p f g cs) hf h
 | row a b c d e=>exact Qv (v := .row a b c d e) hf h
 | ptr a b c d=>exact Qv (v := .ptr a b c d) hf h
 | _=>rfl
theorem Aiu : ∀ {tm:Tm},nR k tm=false -> ∀ j,rF k (tg tm j)=false
 | [],_,_=>rfl
 | (i,v)::r,h,j=>by
  simp only[nR]at h;cases h1:rF k v<;>simp only[h1,cond_true,cond_false]at h
  ·simp only[tg]
   cases Nat.beq j i
   ·exact Aiu h j
   ·exact h1
  ·cases h
theorem Air : ∀ {M:Mem},cA k M=false -> ∀ j s c,g7 M j=some (s,c)->pT k c=false
 | [],_,_,_,_,e=>by cases e
 | (i,s0,c0)::r,h,j,s,c,e=>by
  simp only[cA]at h;cases h1:pT k c0<;>simp only[h1,cond_true,cond_false]at h
  ·simp only[g7]at e
   cases h2:Nat.beq j i<;>simp only[h2,cond_true,cond_false]at e
   ·exact Air h j s c e
   ·simp only[Option.some.injEq,Prod.mk.injEq]at e
    obtain ⟨_,rfl⟩:=e;exact h1
  ·cases h
theorem AqS {c:FB} {j:Nat} (hf:f 0=σ k 0) (h:pT k c=false) (hj:j≠k):c.k8 (JH σ k f) j=c.k8 σ j:=by
 cases c with
 | bx cs=>simp only[pT]at h;simp only[FB.k8,Qt hf h]
 | rw z es=>rfl
 | bs z es=>simp only[pT]at h;simp only[FB.k8,AnD hf h]
 | mx rows=>simp only[FB.k8];rw[sE rows 0 λ i _=>by rw[IW f hj]]
 | hx a v rows=>simp only[FB.k8];rw[sE rows 0 λ i _=>by rw[IW f hj]]
 | vw w rows=>simp only[FB.k8];rw[sE rows 0 λ i _=>by rw[IW f hj]]
end
theorem RX.Pb (h:RX σ tm M st) {k k2 s s2 i z:Nat} {rows:List (Option (Nat × List (List AV)))} {es:List (List AV)} {c0:FB} (e:g7 M k=some (s,c0)) (qy:c0 = .mx rows \/ ∃ v,c0 = .hx i v rows) (e2:g7 M k2=some (s2,.rw z es)) (hk:k≠k2) (jf:nR k tm=false) (En:cA k M=false) (hi:i<rows.length) :
  RX (JH σ k λ t=>if t=i+1 then σ k2 0 else σ k t) tm ((k,s,.mx (rows.set i (some (z,es))))::bg k2 M) ⟨st.tm,st.own.put s ((st.own s).cr (σ k 0).2 (some ⟨1,(IE σ k 0 rows).set i [.row (σ k2 0).1 (σ k2 0).2 z 0 es.length]⟩))⟩:=by
 have hs:=h.sat.site _ _ _ e;subst hs;have r0:=MI e;have r2:=MI e2;have f0:(λ t=>if t=i+1 then σ k2 0 else σ k t) 0=σ k 0:=by simp
 have rf:IE (JH σ k λ t=>if t=i+1 then σ k2 0 else σ k t) k 0 (rows.set i (some (z,es)))=(IE σ k 0 rows).set i [.row (σ k2 0).1 (σ k2 0).2 z 0 es.length]:=by
  apply List.ext_getElem?;intro j;rw[V5,HK];by_cases hj:i=j
  ·subst hj
   rw[List.getElem?_set_self hi,List.getElem?_set_self (by rw[PJ];exact hi)];simp
  ·rw[List.getElem?_set_ne hj,List.getElem?_set_ne hj,V5]
   congr 1;funext r
   cases r with
   | none=>rfl
   | some x=>simp only[Nat.zero_add];rw[if_neg (by omega)]
 have hg : ∀ j t c,g6 ((k,(σ k 0).1,.mx (rows.set i (some (z,es))))::bg k2 M) j t=some c ->
   (j=k/\t=0/\c = .mx (rows.set i (some (z,es))))\/(j=k/\t=i+1/\c = .rw z es)\/(j=k/\t≠0/\t≠i+1/\g6 M k t=some c)\/(j≠k/\j≠k2/\g6 M j t=some c):=by
  intro j t c g;by_cases hj:j=k
  ·subst hj
   cases t with
   | zero=>rw[xY]at g;exact Or.inl ⟨rfl,rfl,(Option.some.inj g).symm⟩
   | succ t =>
    simp only[g6,g7,Nat.beq_refl,cond_true]at g;by_cases Du:i=t
    ·subst Du
     rw[List.getElem?_set_self hi]at g;exact Or.inr (Or.inl ⟨rfl,rfl,(Option.some.inj g).symm⟩)
    ·rw[List.getElem?_set_ne Du]at g
     refine Or.inr (Or.inr (Or.inl ⟨rfl,by omega,by omega,?_⟩));rcases qy with rfl|⟨v,rfl⟩
     ·simp only[g6,e]
      exact g
     ·simp only[g6,e]
      exact g
  ·rw[qM hj]at g
   obtain ⟨g1,g2⟩:=fK g;exact Or.inr (Or.inr (Or.inr ⟨hj,g1,g2⟩))
 have hch : ∀ j t c,g6 M j t=some c->pT k c=false:=by
  intro j t c g;obtain ⟨s1,c0,g1,g2,g3⟩:=XY g;cases t with
  | zero=>rw[g2 rfl];exact Air En _ _ _ g1
  | succ t=>obtain ⟨_,_,_,_,_,rfl⟩:=g3 t rfl;rfl
 refine ⟨λ j => ?_,⟨?_,?_,?_,?_,?_⟩⟩
 ·rw[Axk (f:=λ t=>if t=i+1 then σ k2 0 else σ k t) f0 (Aiu jf j)];exact h.tm j
 ·intro j s' c g
  simp only[g7]at g;cases hb:Nat.beq j k<;>simp only[hb,cond_true,cond_false]at g
  ·rw[IW _ (OB.1 hb)];exact h.sat.site _ _ _ (oE g).2
  ·simp only[Option.some.injEq,Prod.mk.injEq]at g
   rw[GU.1 hb,HK,<-g.1];simp
 ·intro j t c g
  rcases hg j t c g with ⟨rfl,rfl,rfl⟩|⟨rfl,rfl,rfl⟩|⟨rfl,h0,h1,g2⟩|⟨h0,h1,g2⟩
  ·rw[HK]
   simp only[FB.k8,rf];exact Af7
  ·rw[HK]
   simp only[if_true];exact (yG (λ he=>hk (h.sat.inj _ _ _ _ _ _ r2 r0 he).1.symm)).trans (h.sat.k8 _ _ _ r2)
  ·rw[HK]
   simp only[h1,if_false];have hb:c.k8 (JH σ j λ t=>if t=i+1 then σ k2 0 else σ j t) j=c.k8 σ j:=by
    obtain ⟨_,_,_,_,g3⟩:=XY g2;obtain ⟨t',rfl⟩ : ∃ t',t=t'+1:=⟨t-1,by omega⟩;obtain ⟨_,_,_,_,_,rfl⟩:=g3 t' rfl;rfl
   rw[hb];exact (yG (λ he=>h0 (h.sat.inj _ _ _ _ _ _ g2 r0 he).2)).trans (h.sat.k8 _ _ _ g2)
  ·rw[IW _ h0,AqS (f:=λ t=>if t=i+1 then σ k2 0 else σ k t) f0 (hch _ _ _ g2) h0]
   exact (yG (λ he=>h0 (h.sat.inj _ _ _ _ _ _ g2 r0 he).1)).trans (h.sat.k8 _ _ _ g2)
 ·intro j t c g
  rw[Acx];rcases hg j t c g with ⟨rfl,rfl,rfl⟩|⟨rfl,rfl,rfl⟩|⟨rfl,h0,h1,g2⟩|⟨h0,h1,g2⟩
  ·rw[HK];simpa using h.sat.old _ _ _ r0
  ·rw[HK];simpa using h.sat.old _ _ _ r2
  ·rw[HK];simp only[h1,if_false];exact h.sat.old _ _ _ g2
  ·rw[IW _ h0];exact h.sat.old _ _ _ g2
 ·-- each name is that of Qq in the old memory
  have hold : ∀ j t c,g6 ((k,(σ k 0).1,.mx (rows.set i (some (z,es))))::bg k2 M) j t=some c -> ∃ j0 t0 c0,g6 M j0 t0=some c0/\(JH σ k λ t=>if t=i+1 then σ k2 0 else σ k t) j t=σ j0 t0/\((j0=k2/\t0=0/\j=k/\t=i+1)\/(j0=j/\t0=t/\j≠k2)):=by
   intro j t c g;rcases hg j t c g with ⟨rfl,rfl,rfl⟩|⟨rfl,rfl,rfl⟩|⟨rfl,h0,h1,g2⟩|⟨h0,h1,g2⟩
   ·exact ⟨_,_,_,r0,by rw[HK];simp,Or.inr ⟨rfl,rfl,hk⟩⟩
   ·exact ⟨_,_,_,r2,by rw[HK];simp,Or.inl ⟨rfl,rfl,rfl,rfl⟩⟩
   ·exact ⟨_,_,_,g2,by rw[HK];simp [h1],Or.inr ⟨rfl,rfl,hk⟩⟩
   ·exact ⟨_,_,_,g2,by rw[IW _ h0],Or.inr ⟨rfl,rfl,h1⟩⟩
  intro j t j' t' c c' g g' hj;obtain ⟨j0,t0,c0,a1,a2,a3⟩:=hold j t c g;obtain ⟨j1,t1,c1,b1,b2,b3⟩:=hold j' t' c' g';rw[a2,b2]at hj;obtain ⟨q1,q2⟩:=h.sat.inj _ _ _ _ _ _ a1 b1 hj;rcases a3 with ⟨x1,x2,x3,x4⟩|⟨x1,x2,x3⟩<;>rcases b3 with ⟨y1,y2,y3,y4⟩|⟨y1,y2,y3⟩
  ·exact ⟨x3.trans y3.symm,x4.trans y4.symm⟩
  ·exact absurd (y1.symm.trans (q1.symm.trans x1)) y3
  ·exact absurd (x1.symm.trans (q1.trans y1)) x3
  ·exact ⟨x1.symm.trans (q1.trans y1),x2.symm.trans (q2.trans y2)⟩
 ·intro j t c g hw
  rcases hg j t c g with ⟨rfl,rfl,rfl⟩|⟨rfl,rfl,rfl⟩|⟨rfl,h0,h1,g2⟩|⟨h0,h1,g2⟩
  ·rw[HK];simpa using h.sat.low _ _ _ r0 (by rcases qy with rfl|⟨v,rfl⟩<;>rfl)
  ·rw[HK];simpa using h.sat.low _ _ _ r2 rfl
  ·rw[HK];simp only[h1,if_false];exact h.sat.low _ _ _ g2 hw
  ·rw[IW _ h0];exact h.sat.low _ _ _ g2 hw
theorem uD {own:C2} {q t:Nat} {b:LS} {p:Nat × Nat} (h:p≠(q,t)) (ho:p.2<(own p.1).k9):((own.put q (((own q).cr t none).new b)) p.1).k8 p.2=(own p.1).k8 p.2:=by
 by_cases hs:p.1=q
 ·rw[hs]at ho ⊢
  rw[C2.n6];simp only[H1.new,H1.cr];have h1 : ¬ p.2=(own q).k9:=by omega
  have h2 : ¬ p.2=t:=λ e=>h (Prod.ext hs e)
  simp only[h1,h2,if_false]
 ·rw[C2.nv _ _ _ _ hs]
theorem uE {own:C2} {q t:Nat} {b:LS} (s:Nat):(own s).k9<=((own.put q (((own q).cr t none).new b)) s).k9:=by
 by_cases hs:s=q
 ·subst hs;rw[C2.n6];simp only[H1.new,H1.cr];omega
 ·rw[C2.nv _ _ _ _ hs];exact Nat.le_refl _
theorem RX.ADe (h:RX σ tm M st) {s key sk i z:Nat} {rows:List (Option (Nat × List (List AV)))} {es es':List (List AV)} (e:g7 M key=some (sk,.mx rows)) (hr:rows[i]? = some (some (z,es))) (hm:QV s M=false) (ht:X6 s tm=false) :
  RX (JH σ s λ_=>((σ key (i+1)).1,st.own.k9 (σ key (i+1)).1)) tm ((s,(σ key (i+1)).1,.rw z es')::(key,sk,.hx i (.row (σ key (i+1)).1 (σ key (i+1)).2 z 0 es.length) (rows.set i none))::bg key M)
   ⟨st.tm,st.own.put (σ key (i+1)).1 (((st.own (σ key (i+1)).1).cr (σ key (i+1)).2 none).new ⟨z,es'⟩)⟩:=by
 have r0:=MI e;have e1:g6 M key (i+1)=some (.rw z es):=by simp [g6,e,hr]
 have hi:i<rows.length:=(zS hr).1;have Yi:key≠s:=(uT hm _ _ _ e).1;have rf:(IE (JH σ s λ_=>((σ key (i+1)).1,st.own.k9 (σ key (i+1)).1)) key 0 (rows.set i none)).set i [.row (σ key (i+1)).1 (σ key (i+1)).2 z 0 es.length]=IE σ key 0 rows:=by
  apply List.ext_getElem?;intro j;by_cases hj:i=j
  ·subst hj
   rw[List.getElem?_set_self (by rw[PJ,List.length_set];exact hi),V5,hr];simp
  ·rw[List.getElem?_set_ne hj,V5,V5,List.getElem?_set_ne hj,IW _ Yi]
 have Oi : ∀ j t c',g6 M j t=some c'->X5 s c'=false/\j≠s:=by
  intro j t c' g;obtain ⟨s1,c0,g1,g2,g3⟩:=XY g;obtain ⟨g4,g5⟩:=uT hm _ _ _ g1;refine ⟨?_,g4⟩;cases t with
  | zero=>rw[g2 rfl];exact g5
  | succ i=>obtain ⟨rows,z,es,_,_,rfl⟩:=g3 i rfl;rfl
 have hg : ∀ j t c,g6 ((s,(σ key (i+1)).1,.rw z es')::(key,sk,.hx i (.row (σ key (i+1)).1 (σ key (i+1)).2 z 0 es.length) (rows.set i none))::bg key M) j t=some c ->
   (j=s/\t=0/\c = .rw z es')\/(j=key/\t=0/\c = .hx i (.row (σ key (i+1)).1 (σ key (i+1)).2 z 0 es.length) (rows.set i none))\/(j≠s /\ ¬ (j=key/\t=0) /\ ¬ (j=key/\t=i+1)/\(j=key -> ∃ z es,c = .rw z es)/\g6 M j t=some c):=by
  intro j t c g;by_cases hj:j=s
  ·subst hj
   obtain ⟨rfl,rfl⟩:=xZ (c := .rw z es') trivial g;exact Or.inl ⟨rfl,rfl,rfl⟩
  ·rw[qM hj]at g
   by_cases hk:j=key
   ·subst hk
    cases t with
    | zero=>rw[xY]at g;exact Or.inr (Or.inl ⟨rfl,rfl,(Option.some.inj g).symm⟩)
    | succ t =>
     simp only[g6,g7,Nat.beq_refl,cond_true]at g;by_cases Du:i=t
     ·subst Du
      rw[List.getElem?_set_self hi]at g;cases g
     ·rw[List.getElem?_set_ne Du]at g
      refine Or.inr (Or.inr ⟨hj,by omega,by omega,λ_ => ?_,?_⟩)
      ·split at g
       ·exact ⟨_,_,(Option.some.inj g).symm⟩
       ·cases g
      ·simp only[g6,e]
       exact g
   ·rw[qM hk]at g
    obtain ⟨g1,g2⟩:=fK g;exact Or.inr (Or.inr ⟨hj,by omega,by omega,λ h=>absurd h hk,g2⟩)
 refine ⟨λ j => ?_,⟨?_,?_,?_,?_,?_⟩⟩
 ·rw[Ac1 (yL ht j)];exact h.tm j
 ·intro j s1 c g
  simp only[g7]at g;cases hb:Nat.beq j s<;>simp only[hb,cond_true,cond_false]at g
  ·rw[IW _ (OB.1 hb)]
   cases dd:Nat.beq j key<;>simp only[dd,cond_true,cond_false]at g
   ·exact h.sat.site _ _ _ (oE g).2
   ·simp only[Option.some.injEq,Prod.mk.injEq]at g
    rw[GU.1 dd,<-g.1];exact h.sat.site _ _ _ e
  ·simp only[Option.some.injEq,Prod.mk.injEq]at g
   rw[GU.1 hb,HK,<-g.1]
 ·intro j t c g
  rcases hg j t c g with ⟨rfl,rfl,rfl⟩|⟨rfl,rfl,rfl⟩|⟨h0,h1,h2,h3,g2⟩
  ·rw[HK]
   simp [C2.n6,H1.new,C2.k9,H1.cr,FB.k8]
  ·rw[IW _ Yi]
   simp only[FB.k8,rf];exact (uD (λ he=>absurd (h.sat.inj _ _ _ _ _ _ r0 e1 he).2 (by omega)) (h.sat.old _ _ _ r0)).trans (h.sat.k8 _ _ _ r0)
  ·rw[IW _ h0,Aby (Oi _ _ _ g2).1 h0]
   exact (uD (λ he=>h2 (h.sat.inj _ _ _ _ _ _ g2 e1 he)) (h.sat.old _ _ _ g2)).trans (h.sat.k8 _ _ _ g2)
 ·intro j t c g
  rcases hg j t c g with ⟨rfl,rfl,rfl⟩|⟨rfl,rfl,rfl⟩|⟨h0,h1,h2,h3,g2⟩
  ·rw[HK]
   simp [C2.n6,H1.new,C2.k9,H1.cr]
  ·rw[IW _ Yi]
   exact Nat.lt_of_lt_of_le (h.sat.old _ _ _ r0) (uE _)
  ·rw[IW _ h0]
   exact Nat.lt_of_lt_of_le (h.sat.old _ _ _ g2) (uE _)
 ·have hold : ∀ j t c,g6 ((s,(σ key (i+1)).1,.rw z es')::(key,sk,.hx i (.row (σ key (i+1)).1 (σ key (i+1)).2 z 0 es.length) (rows.set i none))::bg key M) j t=some c->(j=s/\t=0)\/(j≠s /\ ∃ c0,g6 M j t=some c0):=by
   intro j t c g;rcases hg j t c g with ⟨rfl,rfl,rfl⟩|⟨rfl,rfl,rfl⟩|⟨h0,h1,h2,h3,g2⟩
   ·exact Or.inl ⟨rfl,rfl⟩
   ·exact Or.inr ⟨Yi,_,r0⟩
   ·exact Or.inr ⟨h0,_,g2⟩
  have ya : ∀ j0 t0 c0,g6 M j0 t0=some c0->((σ key (i+1)).1,st.own.k9 (σ key (i+1)).1)≠σ j0 t0:=by
   intro j0 t0 c0 g he;have:=h.sat.old _ _ _ g
   rw[<-he]at this;exact absurd this (Nat.lt_irrefl _)
  intro j t j' t' c c' g g' hj;rcases hold j t c g with ⟨rfl,rfl⟩|⟨a1,c1,a2⟩<;>rcases hold j' t' c' g' with ⟨rfl,rfl⟩|⟨b1,c2,b2⟩
  ·exact ⟨rfl,rfl⟩
  ·rw[HK,IW _ b1]at hj;exact absurd hj (ya _ _ _ b2)
  ·rw[HK,IW _ a1]at hj;exact absurd hj.symm (ya _ _ _ a2)
  ·rw[IW _ a1,IW _ b1]at hj
   exact h.sat.inj _ _ _ _ _ _ a2 b2 hj
 ·intro j t c g hw
  rcases hg j t c g with ⟨rfl,rfl,rfl⟩|⟨rfl,rfl,rfl⟩|⟨h0,h1,h2,h3,g2⟩
  ·rw[HK];exact h.sat.low _ _ _ e1 rfl
  ·rw[IW _ Yi];exact h.sat.low _ _ _ r0 rfl
  ·rw[IW _ h0];exact h.sat.low _ _ _ g2 hw
theorem RX.ADg (h:RX σ tm M st) {s key s':Nat} {rows:List (Option (Nat × List (List AV)))} (e:g7 M key=some (s',.mx rows)) (hm:QV s M=false) (ht:X6 s tm=false) :
  RX (JH σ s λ t=>match t with|0=>(s',st.own.k9 s')|i+1=>σ key (i+1)) tm ((s,s',.mx (rows++[none]))::bg key M)
   ⟨st.tm,st.own.put s' (((st.own s').cr (σ key 0).2 none).new ⟨1,IE σ key 0 rows++[[.nil]]⟩)⟩:=by
 have hs:=h.sat.site _ _ _ e;subst hs;have r0:=MI e;generalize hF:(λ t=>match t with|0=>((σ key 0).1,st.own.k9 (σ key 0).1)|i+1=>σ key (i+1):Nat->Nat × Nat)=F;have F0:F 0=((σ key 0).1,st.own.k9 (σ key 0).1):=by rw[<-hF]
 have F1 : ∀ i,F (i+1)=σ key (i+1):=by intro i;rw[<-hF]
 have rf:IE (JH σ s F) s 0 (rows++[none])=IE σ key 0 rows++[[.nil]]:=by
  apply List.ext_getElem?;intro j;rw[V5,HK];rcases Nat.lt_trichotomy j rows.length with hj|hj|hj
  ·rw[List.getElem?_append_left hj,List.getElem?_append_left (by rw[PJ];exact hj),V5]
   congr 1;funext r
   cases r with
   | none=>rfl
   | some x=>simp only[Nat.zero_add];rw[F1]
  ·subst hj
   rw[List.getElem?_append_right (Nat.le_refl _),List.getElem?_append_right (by rw[PJ];exact Nat.le_refl _),PJ];simp
  ·rw[List.getElem?_eq_none (by simp;omega),List.getElem?_eq_none (by simp [PJ];omega)];rfl
 have Oi : ∀ j t c',g6 M j t=some c'->X5 s c'=false/\j≠s:=by
  intro j t c' g;obtain ⟨s1,c0,g1,g2,g3⟩:=XY g;obtain ⟨g4,g5⟩:=uT hm _ _ _ g1;refine ⟨?_,g4⟩;cases t with
  | zero=>rw[g2 rfl];exact g5
  | succ i=>obtain ⟨rows,z,es,_,_,rfl⟩:=g3 i rfl;rfl
 have hg : ∀ j t c,g6 ((s,(σ key 0).1,.mx (rows++[none]))::bg key M) j t=some c ->
   (j=s/\t=0/\c = .mx (rows++[none]))\/(j=s/\t≠0/\g6 M key t=some c)\/(j≠s/\j≠key/\g6 M j t=some c):=by
  intro j t c g;by_cases hj:j=s
  ·subst hj
   cases t with
   | zero=>rw[xY]at g;exact Or.inl ⟨rfl,rfl,(Option.some.inj g).symm⟩
   | succ t =>
    simp only[g6,g7,Nat.beq_refl,cond_true]at g;rcases Nat.lt_trichotomy t rows.length with vq|vq|vq
    ·rw[List.getElem?_append_left vq]at g
     refine Or.inr (Or.inl ⟨rfl,by omega,?_⟩);simp only[g6,e];exact g
    ·subst vq
     rw[List.getElem?_append_right (Nat.le_refl _),Nat.sub_self]at g;simp at g
    ·rw[List.getElem?_eq_none (by simp;omega)]at g;cases g
  ·rw[qM hj]at g
   obtain ⟨g1,g2⟩:=fK g;exact Or.inr (Or.inr ⟨hj,g1,g2⟩)
 refine ⟨λ j => ?_,⟨?_,?_,?_,?_,?_⟩⟩
 ·rw[Ac1 (yL ht j)];exact h.tm j
 ·intro j s1 c g
  simp only[g7]at g;cases hb:Nat.beq j s<;>simp only[hb,cond_true,cond_false]at g
  ·rw[IW _ (OB.1 hb)];exact h.sat.site _ _ _ (oE g).2
  ·simp only[Option.some.injEq,Prod.mk.injEq]at g
   rw[GU.1 hb,HK,F0,<-g.1]
 ·intro j t c g
  rcases hg j t c g with ⟨rfl,rfl,rfl⟩|⟨rfl,h0,g2⟩|⟨h0,h1,g2⟩
  ·rw[HK,F0]
   simp only[FB.k8,rf];simp [C2.n6,H1.new,C2.k9,H1.cr]
  ·obtain ⟨t',rfl⟩ : ∃ t',t=t'+1:=⟨t-1,by omega⟩
   rw[HK,F1];have hb:c.k8 (JH σ j F) j=c.k8 σ key:=by
    obtain ⟨_,_,_,_,g3⟩:=XY g2;obtain ⟨_,_,_,_,_,rfl⟩:=g3 t' rfl;rfl
   rw[hb];exact (uD (λ he=>absurd (h.sat.inj _ _ _ _ _ _ g2 r0 he).2 (by omega)) (h.sat.old _ _ _ g2)).trans (h.sat.k8 _ _ _ g2)
  ·rw[IW _ h0,Aby (Oi _ _ _ g2).1 h0]
   exact (uD (λ he=>h1 (h.sat.inj _ _ _ _ _ _ g2 r0 he).1) (h.sat.old _ _ _ g2)).trans (h.sat.k8 _ _ _ g2)
 ·intro j t c g
  rcases hg j t c g with ⟨rfl,rfl,rfl⟩|⟨rfl,h0,g2⟩|⟨h0,h1,g2⟩
  ·rw[HK,F0]
   simp [C2.n6,H1.new,C2.k9,H1.cr]
  ·obtain ⟨t',rfl⟩ : ∃ t',t=t'+1:=⟨t-1,by omega⟩
   rw[HK,F1];exact Nat.lt_of_lt_of_le (h.sat.old _ _ _ g2) (uE _)
  ·rw[IW _ h0]
   exact Nat.lt_of_lt_of_le (h.sat.old _ _ _ g2) (uE _)
 ·have hold : ∀ j t c,g6 ((s,(σ key 0).1,.mx (rows++[none]))::bg key M) j t=some c->(j=s/\t=0) \/ ∃ j0 t0 c0,g6 M j0 t0=some c0/\JH σ s F j t=σ j0 t0/\((j0=key/\t0=t/\j=s)\/(j0=j/\t0=t/\j≠key)):=by
   intro j t c g;rcases hg j t c g with ⟨rfl,rfl,rfl⟩|⟨rfl,h0,g2⟩|⟨h0,h1,g2⟩
   ·exact Or.inl ⟨rfl,rfl⟩
   ·obtain ⟨t',rfl⟩ : ∃ t',t=t'+1:=⟨t-1,by omega⟩
    exact Or.inr ⟨_,_,_,g2,by rw[HK,F1],Or.inl ⟨rfl,rfl,rfl⟩⟩
   ·exact Or.inr ⟨_,_,_,g2,by rw[IW _ h0],Or.inr ⟨rfl,rfl,h1⟩⟩
  have ya : ∀ j0 t0 c0,g6 M j0 t0=some c0->JH σ s F s 0≠σ j0 t0:=by
   intro j0 t0 c0 g he;rw[HK,F0]at he;have:=h.sat.old _ _ _ g
   rw[<-he]at this;exact absurd this (Nat.lt_irrefl _)
  intro j t j' t' c c' g g' hj;rcases hold j t c g with ⟨rfl,rfl⟩|⟨j0,t0,c0,a1,a2,a3⟩<;>rcases hold j' t' c' g' with ⟨rfl,rfl⟩|⟨j1,t1,c1,b1,b2,b3⟩
  ·exact ⟨rfl,rfl⟩
  ·rw[b2]at hj;exact absurd hj (ya _ _ _ b1)
  ·rw[a2]at hj;exact absurd hj.symm (ya _ _ _ a1)
  ·rw[a2,b2]at hj
   obtain ⟨q1,q2⟩:=h.sat.inj _ _ _ _ _ _ a1 b1 hj;rcases a3 with ⟨x1,x2,x3⟩|⟨x1,x2,x3⟩<;>rcases b3 with ⟨y1,y2,y3⟩|⟨y1,y2,y3⟩
   ·exact ⟨x3.trans y3.symm,x2.symm.trans (q2.trans y2)⟩
   ·exact absurd (y1.symm.trans (q1.symm.trans x1)) y3
   ·exact absurd (x1.symm.trans (q1.trans y1)) x3
   ·exact ⟨x1.symm.trans (q1.trans y1),x2.symm.trans (q2.trans y2)⟩
 ·intro j t c g hw
  rcases hg j t c g with ⟨rfl,rfl,rfl⟩|⟨rfl,h0,g2⟩|⟨h0,h1,g2⟩
  ·rw[HK,F0];exact h.sat.low _ _ _ r0 rfl
  ·obtain ⟨t',rfl⟩ : ∃ t',t=t'+1:=⟨t-1,by omega⟩
   rw[HK,F1];exact h.sat.low _ _ _ g2 hw
  ·rw[IW _ h0];exact h.sat.low _ _ _ g2 hw
theorem AdW {k:Nat} {v:AV} (h:mK k v=false):pR k v=false:=by
 cases v with
 | row j t z o n=>simp only[mK]at h;simp only[pR,h,cond_false]
 | ptr j t a b=>simp only[mK]at h;simp only[pR,h,cond_false]
 | _=>rfl
theorem zZ {k:Nat} : ∀ {cs:List AV},ZI k cs=false->nQ k cs=false
 | [],_=>rfl
 | c::r,h=>by
  simp only[ZI]at h;cases h1:mK k c<;>simp only[h1,cond_true,cond_false]at h
  ·simp only[nQ,AdW h1,cond_false,zZ h]
  ·cases h
theorem Aiq {k:Nat} : ∀ {es:List (List AV)},sI k es=false->wI k es=false
 | [],_=>rfl
 | c::r,h=>by
  simp only[sI]at h;cases h1:ZI k c<;>simp only[h1,cond_true,cond_false]at h
  ·simp only[wI,zZ h1,cond_false,Aiq h]
  ·cases h
theorem zY {k:Nat} {v:AV} (h:qO k v=false):tM k v=false:=by
 cases v with
 | agg cs=>exact zZ h
 | fn p f g cs=>exact zZ h
 | row a b c d e=>exact AdW (v := .row a b c d e) h
 | ptr a b c d=>exact AdW (v := .ptr a b c d) h
 | _=>rfl
theorem Aip {k:Nat} : ∀ {cs:List AV},yJ k cs=false->wD k cs=false
 | [],_=>rfl
 | c::r,h=>by
  simp only[yJ]at h;cases h1:qO k c<;>simp only[h1,cond_true,cond_false]at h
  ·simp only[wD,zY h1,cond_false,Aip h]
  ·cases h
theorem AqZ {k:Nat} {v:AV} (h:mL k v=false):rF k v=false:=by
 cases v with
 | j5 cs=>exact Aip h
 | agg cs=>exact zY (v := .agg cs) h
 | fn p f g cs=>exact zY (v := .fn p f g cs) h
 | row a b c d e=>exact zY (v := .row a b c d e) h
 | ptr a b c d=>exact zY (v := .ptr a b c d) h
 | _=>rfl
theorem Ait {k:Nat} : ∀ {tm:Tm},X6 k tm=false->nR k tm=false
 | [],_=>rfl
 | (i,v)::r,h=>by
  simp only[X6]at h;cases h1:mL k v<;>simp only[h1,cond_true,cond_false]at h
  ·simp only[nR,AqZ h1,cond_false,Ait h]
  ·cases h
theorem Ais {k:Nat} : ∀ {M:Mem},QV k M=false->cA k M=false
 | [],_=>rfl
 | (i,s,c)::r,h=>by
  simp only[QV]at h;cases h0:Nat.beq k i<;>simp only[h0,cond_true,cond_false]at h
  ·cases h1:X5 k c<;>simp only[h1,cond_true,cond_false]at h
   ·have:pT k c=false:=by
     cases c with
     | bx cs=>exact zZ h1
     | bs z es=>exact Aiq h1
     | _=>rfl
    simp only[cA,this,cond_false,Ais h]
   ·cases h
  ·cases h
theorem RX.hid {M1 M2:Mem} (hm : ∀ k,g7 M1 k=g7 M2 k) (h:RX σ tm M1 st):RX σ tm M2 st:=by
 have hr : ∀ k t,g6 M1 k t=g6 M2 k t:=λ k t=>by simp only[g6,hm]
 refine ⟨h.tm,⟨λ k s c e => ?_,λ k t c e => ?_,λ k t c e => ?_,λ k t k' t' c c' e e' => ?_,λ k t c e hw => ?_⟩⟩
 ·rw[<-hm]at e;exact h.sat.site _ _ _ e
 ·rw[<-hr]at e;exact h.sat.k8 _ _ _ e
 ·rw[<-hr]at e;exact h.sat.old _ _ _ e
 ·rw[<-hr]at e e';exact h.sat.inj _ _ _ _ _ _ e e'
 ·rw[<-hr]at e;exact h.sat.low _ _ _ e hw
theorem RX.AE6 (h:RX σ tm M st) {s q k2 s2 z:Nat} {es:List (List AV)} (e2:g7 M k2=some (s2,.rw z es)) (hk:s≠k2) (hm:QV s M=false) (ht:X6 s tm=false) (hq:OM q=true) :
  ∃ σ',σ' s 0=(q,st.own.k9 q)/\RX σ' tm ((s,q,.mx [some (z,es)])::bg k2 M) ⟨st.tm,st.own.put q ((st.own q).new ⟨1,[[.row (σ k2 0).1 (σ k2 0).2 z 0 es.length]]⟩)⟩:=by
 have qe:FB.flat (.mx [none]):=by
  intro i x hx;cases i with
  | zero=>simp at hx
  | succ i=>simp at hx
 have h1:=h.rk (s:=s) (q:=q) hm ht (.mx [none]) qe rfl (λ_=>hq);have Wi:g7 ((s,q,.mx [none])::M) k2=some (s2,.rw z es):=by
  simp only[g7,OB.2 (λ e=>hk e.symm),cond_false];exact e2
 have En:cA s ((s,q,.mx [none])::M)=false:=by simp only[cA,pT,cond_false,Ais hm]
 have h2:=h1.Pb (k:=s) (s:=q) (k2:=k2) (i:=0) (rows:=[none]) (c0 := .mx [none]) (by simp [g7]) (Or.inl rfl) Wi hk (Ait ht) En (by simp);refine ⟨JH σ s (λ t=>if t=0+1 then σ k2 0 else (q,st.own.k9 q)),?_,?_⟩
 ·rw[HK];simp
 ·have hσ:(JH (JH σ s λ_=>(q,st.own.k9 q)) s λ t=>if t=0+1 then (JH σ s λ_=>(q,st.own.k9 q)) k2 0 else (JH σ s λ_=>(q,st.own.k9 q)) s t)=JH σ s (λ t=>if t=0+1 then σ k2 0 else (q,st.own.k9 q)):=by
   funext j t
   by_cases hj:j=s
   ·subst hj;rw[HK,HK];simp only[HK,IW _ (λ e=>hk e.symm)]
   ·rw[IW _ hj,IW _ hj,IW _ hj]
  rw[hσ]at h2;have hM:bg k2 ((s,q,FB.mx [none])::M)=(s,q,.mx [none])::bg k2 M:=by
   simp only[bg,OB.2 (λ e=>hk e.symm),cond_false]
  rw[hM]at h2;have ho : ∀ b b':LS,(st.own.put q ((st.own q).new b)).put q (((st.own.put q ((st.own q).new b)) q).cr (st.own.k9 q) (some b'))=st.own.put q ((st.own q).new b'):=by
   intro b b';rw[C2.Bp,C2.n6];congr 1;simp only[H1.cr,H1.new,C2.k9,H1.mk.injEq,true_and];funext t'
   by_cases vq:t'=(st.own q).k9<;>simp [vq]
  have hn:(JH σ s λ_=>(q,st.own.k9 q)) s 0=(q,st.own.k9 q):=by rw[HK]
  have vh:(JH σ s λ_=>(q,st.own.k9 q)) k2=σ k2:=IW _ (λ e=>hk e.symm);simp only[hn,vh]at h2;rw[ho]at h2;refine RX.hid (λ k => ?_) h2;simp only[g7];cases Nat.beq k s<;>rfl
theorem RX.ADf (h:RX σ tm M st) {s key k2 ky s' s2 z:Nat} {rows:List (Option (Nat × List (List AV)))} {es:List (List AV)} (e:g7 M key=some (s',.mx rows)) (e2:g7 M k2=some (s2,.rw z es)) (hk:key≠k2) (hm:QV s M=false) (ht:X6 s tm=false) :
  RX (JH σ s λ t=>match t with|0=>(s',st.own.k9 s')|i+1=>if i=rows.length then σ k2 0 else σ key (i+1)) tm ((s,s',.mx (rows++[some (z,es)]))::bg key (bg k2 (bg ky M)))
   ⟨st.tm,st.own.put s' (((st.own s').cr (σ key 0).2 none).new ⟨1,IE σ key 0 rows++[[.row (σ k2 0).1 (σ k2 0).2 z 0 es.length]]⟩)⟩:=by
 have hs:=h.sat.site _ _ _ e;subst hs;have r0:=MI e;have r2:=MI e2;generalize hF:(λ t=>match t with|0=>((σ key 0).1,st.own.k9 (σ key 0).1)|i+1=>if i=rows.length then σ k2 0 else σ key (i+1):Nat->Nat × Nat)=F;have F0:F 0=((σ key 0).1,st.own.k9 (σ key 0).1):=by rw[<-hF]
 have F1 : ∀ i,F (i+1)=if i=rows.length then σ k2 0 else σ key (i+1):=by intro i;rw[<-hF]
 have rf:IE (JH σ s F) s 0 (rows++[some (z,es)])=IE σ key 0 rows++[[.row (σ k2 0).1 (σ k2 0).2 z 0 es.length]]:=by
  apply List.ext_getElem?;intro j;rw[V5,HK];rcases Nat.lt_trichotomy j rows.length with hj|hj|hj
  ·rw[List.getElem?_append_left hj,List.getElem?_append_left (by rw[PJ];exact hj),V5]
   congr 1;funext r
   cases r with
   | none=>rfl
   | some x=>simp only[Nat.zero_add];rw[F1,if_neg (by omega)]
  ·subst hj
   rw[List.getElem?_append_right (Nat.le_refl _),List.getElem?_append_right (by rw[PJ];exact Nat.le_refl _),PJ];simp [F1]
  ·rw[List.getElem?_eq_none (by simp;omega),List.getElem?_eq_none (by simp [PJ];omega)];rfl
 have Oi : ∀ j t c',g6 M j t=some c'->X5 s c'=false/\j≠s:=by
  intro j t c' g;obtain ⟨s1,c0,g1,g2,g3⟩:=XY g;obtain ⟨g4,g5⟩:=uT hm _ _ _ g1;refine ⟨?_,g4⟩;cases t with
  | zero=>rw[g2 rfl];exact g5
  | succ i=>obtain ⟨rows,z,es,_,_,rfl⟩:=g3 i rfl;rfl
 have hg : ∀ j t c,g6 ((s,(σ key 0).1,.mx (rows++[some (z,es)]))::bg key (bg k2 (bg ky M))) j t=some c ->
   (j=s/\t=0/\c = .mx (rows++[some (z,es)]))\/(j=s/\t=rows.length+1/\c = .rw z es)\/(j=s/\t≠0/\t≠rows.length+1/\g6 M key t=some c)\/(j≠s/\j≠key/\j≠k2/\g6 M j t=some c):=by
  intro j t c g;by_cases hj:j=s
  ·subst hj
   cases t with
   | zero=>rw[xY]at g;exact Or.inl ⟨rfl,rfl,(Option.some.inj g).symm⟩
   | succ t =>
    simp only[g6,g7,Nat.beq_refl,cond_true]at g;rcases Nat.lt_trichotomy t rows.length with vq|vq|vq
    ·rw[List.getElem?_append_left vq]at g
     refine Or.inr (Or.inr (Or.inl ⟨rfl,by omega,by omega,?_⟩));simp only[g6,e];exact g
    ·subst vq
     rw[List.getElem?_append_right (Nat.le_refl _),Nat.sub_self]at g;exact Or.inr (Or.inl ⟨rfl,rfl,(Option.some.inj g).symm⟩)
    ·rw[List.getElem?_eq_none (by simp;omega)]at g;cases g
  ·rw[qM hj]at g
   obtain ⟨g1,g2⟩:=fK g;obtain ⟨g3,g4⟩:=fK g2;obtain ⟨_,g5⟩:=fK g4;exact Or.inr (Or.inr (Or.inr ⟨hj,g1,g3,g5⟩))
 refine ⟨λ j => ?_,⟨?_,?_,?_,?_,?_⟩⟩
 ·rw[Ac1 (yL ht j)];exact h.tm j
 ·intro j s1 c g
  simp only[g7]at g;cases hb:Nat.beq j s<;>simp only[hb,cond_true,cond_false]at g
  ·rw[IW _ (OB.1 hb)];exact h.sat.site _ _ _ (oE (oE (oE g).2).2).2
  ·simp only[Option.some.injEq,Prod.mk.injEq]at g
   rw[GU.1 hb,HK,F0,<-g.1]
 ·intro j t c g
  rcases hg j t c g with ⟨rfl,rfl,rfl⟩|⟨rfl,rfl,rfl⟩|⟨rfl,h0,h1,g2⟩|⟨h0,h1,h2,g2⟩
  ·rw[HK,F0]
   simp only[FB.k8,rf];simp [C2.n6,H1.new,C2.k9,H1.cr]
  ·rw[HK,F1,if_pos rfl]
   exact (uD (λ he=>hk (h.sat.inj _ _ _ _ _ _ r2 r0 he).1.symm) (h.sat.old _ _ _ r2)).trans (h.sat.k8 _ _ _ r2)
  ·obtain ⟨t',rfl⟩ : ∃ t',t=t'+1:=⟨t-1,by omega⟩
   rw[HK,F1,if_neg (by omega)];have hb:c.k8 (JH σ j F) j=c.k8 σ key:=by
    obtain ⟨_,_,_,_,g3⟩:=XY g2;obtain ⟨_,_,_,_,_,rfl⟩:=g3 t' rfl;rfl
   rw[hb];exact (uD (λ he=>absurd (h.sat.inj _ _ _ _ _ _ g2 r0 he).2 (by omega)) (h.sat.old _ _ _ g2)).trans (h.sat.k8 _ _ _ g2)
  ·rw[IW _ h0,Aby (Oi _ _ _ g2).1 h0]
   exact (uD (λ he=>h1 (h.sat.inj _ _ _ _ _ _ g2 r0 he).1) (h.sat.old _ _ _ g2)).trans (h.sat.k8 _ _ _ g2)
 ·intro j t c g
  rcases hg j t c g with ⟨rfl,rfl,rfl⟩|⟨rfl,rfl,rfl⟩|⟨rfl,h0,h1,g2⟩|⟨h0,h1,h2,g2⟩
  ·rw[HK,F0]
   simp [C2.n6,H1.new,C2.k9,H1.cr]
  ·rw[HK,F1,if_pos rfl]
   exact Nat.lt_of_lt_of_le (h.sat.old _ _ _ r2) (uE _)
  ·obtain ⟨t',rfl⟩ : ∃ t',t=t'+1:=⟨t-1,by omega⟩
   rw[HK,F1,if_neg (by omega)];exact Nat.lt_of_lt_of_le (h.sat.old _ _ _ g2) (uE _)
  ·rw[IW _ h0]
   exact Nat.lt_of_lt_of_le (h.sat.old _ _ _ g2) (uE _)
 ·have hold : ∀ j t c,g6 ((s,(σ key 0).1,.mx (rows++[some (z,es)]))::bg key (bg k2 (bg ky M))) j t=some c->(j=s/\t=0) \/ ∃ j0 t0 c0,g6 M j0 t0=some c0/\JH σ s F j t=σ j0 t0/\((j0=k2/\t0=0/\j=s/\t=rows.length+1)\/(j0=key/\t0=t/\j=s)\/(j0=j/\t0=t/\j≠key/\j≠k2)):=by
   intro j t c g;rcases hg j t c g with ⟨rfl,rfl,rfl⟩|⟨rfl,rfl,rfl⟩|⟨rfl,h0,h1,g2⟩|⟨h0,h1,h2,g2⟩
   ·exact Or.inl ⟨rfl,rfl⟩
   ·exact Or.inr ⟨_,_,_,r2,by rw[HK,F1,if_pos rfl],Or.inl ⟨rfl,rfl,rfl,rfl⟩⟩
   ·obtain ⟨t',rfl⟩ : ∃ t',t=t'+1:=⟨t-1,by omega⟩
    exact Or.inr ⟨_,_,_,g2,by rw[HK,F1,if_neg (by omega)],Or.inr (Or.inl ⟨rfl,rfl,rfl⟩)⟩
   ·exact Or.inr ⟨_,_,_,g2,by rw[IW _ h0],Or.inr (Or.inr ⟨rfl,rfl,h1,h2⟩)⟩
  have ya : ∀ j0 t0 c0,g6 M j0 t0=some c0->JH σ s F s 0≠σ j0 t0:=by
   intro j0 t0 c0 g he;rw[HK,F0]at he;have:=h.sat.old _ _ _ g
   rw[<-he]at this;exact absurd this (Nat.lt_irrefl _)
  intro j t j' t' c c' g g' hj;rcases hold j t c g with ⟨rfl,rfl⟩|⟨j0,t0,c0,a1,a2,a3⟩<;>rcases hold j' t' c' g' with ⟨rfl,rfl⟩|⟨j1,t1,c1,b1,b2,b3⟩
  ·exact ⟨rfl,rfl⟩
  ·rw[b2]at hj;exact absurd hj (ya _ _ _ b1)
  ·rw[a2]at hj;exact absurd hj.symm (ya _ _ _ a1)
  ·rw[a2,b2]at hj
   obtain ⟨q1,q2⟩:=h.sat.inj _ _ _ _ _ _ a1 b1 hj;rcases a3 with ⟨x1,x2,x3,x4⟩|⟨x1,x2,x3⟩|⟨x1,x2,x3,x4⟩<;>rcases b3 with ⟨y1,y2,y3,y4⟩|⟨y1,y2,y3⟩|⟨y1,y2,y3,y4⟩
   ·exact ⟨x3.trans y3.symm,x4.trans y4.symm⟩
   ·exact absurd (y1.symm.trans (q1.symm.trans x1)) hk
   ·exact absurd (y1.symm.trans (q1.symm.trans x1)) y4
   ·exact absurd (x1.symm.trans (q1.trans y1)) hk
   ·exact ⟨x3.trans y3.symm,x2.symm.trans (q2.trans y2)⟩
   ·exact absurd (y1.symm.trans (q1.symm.trans x1)) y3
   ·exact absurd (x1.symm.trans (q1.trans y1)) x4
   ·exact absurd (x1.symm.trans (q1.trans y1)) x3
   ·exact ⟨x1.symm.trans (q1.trans y1),x2.symm.trans (q2.trans y2)⟩
 ·intro j t c g hw
  rcases hg j t c g with ⟨rfl,rfl,rfl⟩|⟨rfl,rfl,rfl⟩|⟨rfl,h0,h1,g2⟩|⟨h0,h1,h2,g2⟩
  ·rw[HK,F0];exact h.sat.low _ _ _ r0 rfl
  ·rw[HK,F1,if_pos rfl];exact h.sat.low _ _ _ r2 rfl
  ·obtain ⟨t',rfl⟩ : ∃ t',t=t'+1:=⟨t-1,by omega⟩
   rw[HK,F1,if_neg (by omega)];exact h.sat.low _ _ _ g2 hw
  ·rw[IW _ h0];exact h.sat.low _ _ _ g2 hw
theorem XC (k:IntKind) (n:Int):FG σ (.int k n) = .int k n:=rfl
theorem V6 (b:Bool):FG σ (.bool b) = .bool b:=rfl
theorem X7 (l:Bool) (es:List (List AV)):FG σ (.sl l es) = .sl l es:=rfl
theorem KW (k t z o n:Nat):FG σ (.row k t z o n) = .row (σ k t).1 (σ k t).2 z o n:=rfl
theorem MJ (k t i j:Nat):FG σ (.ptr k t i j) = .ptr (σ k t).1 (σ k t).2 i j:=rfl
theorem aD (cs:List AV):FG σ (.db cs) = .db cs:=rfl
theorem PN:FG σ .nil = .nil:=rfl
theorem ZO (cs:List AV):FG σ (.agg cs) = .agg (cs.map (E7 σ)):=rfl
theorem AwT (v:Value):FG σ (.gx v) = .gx v:=rfl
theorem AcK (p:Bool) (f g:Nat) (cs:List AV):FG σ (.fn p f g cs) = .fn p f g (cs.map (E7 σ)):=rfl
theorem ZP (cs:List AV):FG σ (.j5 cs) = .j5 (cs.map (GD σ)):=rfl
def H5.res (own:C2):H5->AV × C2
 | .val v=>(v,own)
 | .new s b f=>(f (own.k9 s),own.put s ((own s).new b))
 | .Kj s b f=>(f (own.k9 s),own.put s ((own s).new b))
 | .mn v o=>(v,o)
 | .cr s x=>(.j5 [],own.put s x)
 | .Hl s x v=>(v,own.put s x)
theorem AdG (st:St) (d:Option Nat) (E:H5):st.app d E=⟨(st.dst d (E.res st.own).1).tm,(E.res st.own).2⟩:=by
 cases E<;>cases d<;>rfl
def HE (L:Lib) (tm:Tm) (c4:List Nat) (K:AV->Mem->Prop) (op:K8) (st:St):Prop :=
 ∃ E σ' v M',(∀ c,k6 (JP L c) c4 st.ev st.own op=some E)/\K v M'/\(E.res st.own).1=FG σ' v/\RX σ' tm M' ⟨st.tm,(E.res st.own).2⟩
theorem HE.val {L:Lib} {c4:List Nat} {K:AV->Mem->Prop} {op:K8} (h:RX σ tm M st) (v:AV) (he : ∀ c,k6 (JP L c) c4 st.ev st.own op=some (.val (FG σ v))) (hk:K v M):HE L tm c4 K op st :=
 ⟨_,σ,v,M,he,hk,rfl,h⟩
variable {L:Lib} {c4:List Nat} {K:AV->Mem->Prop}
theorem Aqj {x:C4} (hr:RX σ tm M st) (h:XE L tm M c4 K (.y7 x)):HE L tm c4 K (.y7 x) st:=by
 simp only[XE]at h;obtain ⟨h1,h2⟩:=Ab1 h;exact HE.val hr _ (λ C=>by simp only[k6,hr.ev rfl h1]) h2
theorem Aqp {s z:Nat} (hr:RX σ tm M st) (h:XE L tm M c4 K (.gj s z)):HE L tm c4 K (.gj s z) st:=by
 simp only[XE]at h;cases sw:OM s<;>simp only[sw,cond_true,cond_false]at h;obtain ⟨k,h1,h2,h3⟩:=ZU h;refine ⟨_,_,_,_,λ C=>rfl,h3,?_,hr.rk h1 h2 (.rw z []) trivial rfl (λ_=>sw)⟩;simp only[H5.res,KW,MJ,HK]
theorem Aqk {c a b:C4} (hr:RX σ tm M st) (h:XE L tm M c4 K (.pick c a b)):HE L tm c4 K (.pick c a b) st:=by
 simp only[XE]at h;split at h
 ·rename_i e
  obtain ⟨h1,h2⟩:=Ab1 h;exact HE.val hr _ (λ C=>by simp only[k6,hr.ev e (by intro e;cases e),hr.ev rfl h1,XC,V6,X7,KW,MJ,aD,PN,ZO,ZP]) h2
 ·rename_i e
  obtain ⟨h1,h2⟩:=Ab1 h;exact HE.val hr _ (λ C=>by simp only[k6,hr.ev e (by intro e;cases e),hr.ev rfl h1,XC,V6,X7,KW,MJ,aD,PN,ZO,ZP]) h2
 ·exact h.elim
theorem AuU {op:BinOp} {k k':IntKind} {a b:Int} {v:AV} (h:J0 op k a k' b=some v):FG σ v=v:=by
 cases op<;>simp only[J0]at h<;>split at h<;>first|(obtain rfl:=Option.some.inj h;rfl)|cases h
theorem Avj {k k':IntKind} (h:kq k k'=true):k=k':=by simpa [kq] using h
theorem AqP {op:BinOp} {k k':IntKind} {a b:Int} {K:AV->Prop} (h:AdI op k a k' b K) : ∃ v,J0 op k a k' b=some v/\K v:=by
 have key : ∀ (p q:Prop) [Decidable p] (A B:Prop) (c:Bool),(¬ p->q)->B0 p q A B->(p/\A)\/(¬ p/\B):=by
  intro p q _ A B _ hq hc;by_cases hp:p
  ·exact Or.inl ⟨hp,hc.1 hp⟩
  ·exact Or.inr ⟨hp,hc.2 (hq hp)⟩
 cases op;all_goals try (exact h)
 all_goals (
  simp only[AdI]at h;cases hk:kq k k'<;>simp only[hk,cond_true,cond_false]at h;obtain rfl:=Avj hk;simp only[J0,if_true])
 ·rcases key (a=b) _ _ _ true (λ e=>e) h with ⟨h1,h2⟩|⟨h1,h2⟩
  ·exact ⟨_,rfl,by rw[show (a == b)=true by simpa using h1];exact h2⟩
  ·exact ⟨_,rfl,by rw[show (a == b)=false by simpa using h1];exact h2⟩
 ·rcases key (a≠b) _ _ _ true (λ e=>by omega) h with ⟨h1,h2⟩|⟨h1,h2⟩
  ·exact ⟨_,rfl,by rw[show (a != b)=true by simpa using h1];exact h2⟩
  ·exact ⟨_,rfl,by rw[show (a != b)=false by simpa using h1];exact h2⟩
 ·rcases key (a<b) _ _ _ true (λ e=>by omega) h with ⟨h1,h2⟩|⟨h1,h2⟩
  ·exact ⟨_,rfl,by simpa [h1] using h2⟩
  ·exact ⟨_,rfl,by simpa [h1] using h2⟩
 ·rcases key (a<=b) _ _ _ true (λ e=>by omega) h with ⟨h1,h2⟩|⟨h1,h2⟩
  ·exact ⟨_,rfl,by simpa [h1] using h2⟩
  ·exact ⟨_,rfl,by simpa [h1] using h2⟩
 ·rcases key (b<a) _ _ _ true (λ e=>by omega) h with ⟨h1,h2⟩|⟨h1,h2⟩
  ·exact ⟨_,rfl,by simpa [h1] using h2⟩
  ·exact ⟨_,rfl,by simpa [h1] using h2⟩
 ·rcases key (b<=a) _ _ _ true (λ e=>by omega) h with ⟨h1,h2⟩|⟨h1,h2⟩
  ·exact ⟨_,rfl,by simpa [h1] using h2⟩
  ·exact ⟨_,rfl,by simpa [h1] using h2⟩
theorem Ap3 {op:BinOp} {x y:C4} (hr:RX σ tm M st) (h:XE L tm M c4 K (.bin op x y)):HE L tm c4 K (.bin op x y) st:=by
 simp only[XE]at h;split at h
 ·rename_i k a k' b e1 e2
  obtain ⟨v,hv,hk⟩:=AqP h;exact HE.val hr v (λ C=>by
   simp only[k6,hr.ev e1 (by intro e;cases e),hr.ev e2 (by intro e;cases e),XC,V6,X7,KW,MJ,aD,PN,ZO,ZP,hv,Option.map_some];exact congrArg some (congrArg H5.val (AuU (σ:=σ) hv).symm)) hk
 ·exact h.elim
theorem Ap2 {ne:Bool} {x y:C4} (hr:RX σ tm M st) (h:XE L tm M c4 K (.beq ne x y)):HE L tm c4 K (.beq ne x y) st:=by
 simp only[XE]at h;split at h
 ·rename_i a b e1 e2
  rw[rR]at h;exact HE.val hr _ (λ C=>by
   simp only[k6,hr.ev e1 (by intro e;cases e),hr.ev e2 (by intro e;cases e),XC,V6,X7,KW,MJ,aD,PN,ZO,ZP];cases ne<;>rfl) h
 ·exact h.elim
theorem Aqo {op:UnOp} {x:C4} (hr:RX σ tm M st) (h:XE L tm M c4 K (.un op x)):HE L tm c4 K (.un op x) st:=by
 simp only[XE]at h;split at h
 ·rename_i k n e1
  obtain ⟨v,hv,hk⟩:=h;refine HE.val hr v (λ C => ?_) hk;simp only[k6,hr.ev e1 (by intro e;cases e),XC,V6,X7,KW,MJ,aD,PN,ZO,ZP,hv,Option.map_some];cases op<;>simp only[sT,Option.some.injEq,reduceCtorEq]at hv<;>subst hv<;>rfl
 ·rename_i b e1
  split at h
  ·rw[rR]at h
   exact HE.val hr _ (λ C=>by simp only[k6,hr.ev e1 (by intro e;cases e),XC,V6,X7,KW,MJ,aD,PN,ZO,ZP,sT,Option.map_some]) h
  ·exact h.elim
 ·exact h.elim
theorem Ap7 {k:IntKind} {x:C4} (hr:RX σ tm M st) (h:XE L tm M c4 K (.conv k x)):HE L tm c4 K (.conv k x) st:=by
 simp only[XE]at h;split at h
 ·rename_i k' n e1
  exact HE.val hr _ (λ C=>by simp only[k6,hr.ev e1 (by intro e;cases e),XC,V6,X7,KW,MJ,aD,PN,ZO,ZP]) h.h
 ·exact h.elim
theorem Ap4 {s:Nat} {x:C4} (hr:RX σ tm M st) (h:XE L tm M c4 K (.box s x)):HE L tm c4 K (.box s x) st:=by
 simp only[XE]at h;obtain ⟨h0,cs,hc,h⟩:=Ab0 h;obtain ⟨k,h1,h2,h3⟩:=ZU h;refine ⟨.new s (FB.k8 σ k (.bx cs)) (λ t => .ptr s t 0 0),_,_,_,λ C => ?_,h3,?_,hr.rk h1 h2 (.bx cs) trivial (AmV (Akx h2 x) hc) (λ h=>nomatch h)⟩
 ·simp only[k6,hr.ev rfl h0,rE hc,List.length_map,FB.k8]
 ·simp only[H5.res,KW,MJ,HK]
theorem ApZ {s:Nat} {z:List AV} (hr:RX σ tm M st) (h:XE L tm M c4 K (.alloc s z)):HE L tm c4 K (.alloc s z) st:=by
 simp only[XE]at h;cases hd:LX z<;>simp only[hd,cond_true,cond_false]at h;obtain ⟨k,h1,h2,h3⟩:=ZU h;refine ⟨.new s (FB.k8 σ k (.bx z)) (λ t => .ptr s t 0 0),_,_,_,λ C => ?_,h3,?_,hr.rk h1 h2 (.bx z) trivial (Aec hd) (λ h=>nomatch h)⟩
 ·simp only[k6,FB.k8,Z5 hd]
 ·simp only[H5.res,KW,MJ,HK]
theorem Acu {cs ds:List AV} {off n:Nat} (h:part cs off n=some ds):part (cs.map (E7 σ)) off n=some (ds.map (E7 σ)):=by
 simp only[part]at h ⊢;split at h
 ·rename_i hl
  rw[if_pos (by simpa using hl)];obtain rfl:=Option.some.inj h;rw[List.map_take,List.map_drop]
 ·cases h
theorem Akz {v:AV} {K:AV->Prop} (h:fF v K):v ≠ .any/\FG σ v=E7 σ v/\K v:=by
 cases v<;>simp only[fF]at h<;>first|exact h.elim|exact ⟨(by intro e;cases e),rfl,h⟩
theorem sF (σ:OA) {agg:Bool} {ds:List AV} {K:AV->Prop} (h:Bo agg ds K) : ∃ v,cP agg (ds.map (E7 σ))=some (FG σ v)/\K v:=by
 cases agg
 ·simp only[Bo]at h
  split at h
  ·rename_i c
   obtain ⟨_,h1,h2⟩:=Akz (σ:=σ) h;exact ⟨c,by rw[h1];rfl,h2⟩
  ·exact h.elim
 ·exact ⟨.agg ds,rfl,h⟩
theorem Anz {cs vs:List AV} {j:Nat}:(splice cs j vs).map (E7 σ)=splice (cs.map (E7 σ)) j (vs.map (E7 σ)):=by
 simp only[splice,List.map_append,List.map_take,List.map_drop,List.length_map]
theorem AkF (hr:RX σ tm M st) : ∀ {ps:List (Nat × Nat × C4)} {cells:List AV} {K:List AV->Prop},flX tm ps cells K -> ∃ cs,fill (cells.map (E7 σ)) (ps.map λ p=>(p.1,p.2.1,st.ev p.2.2))=some (cs.map (E7 σ))/\K cs
 | [],cells,K,h=>⟨cells,rfl,h⟩
 | p::r,cells,K,h=>by
  obtain ⟨h0,vs,hc,h⟩:=Ab0 (show fC (ex tm p.2.2) λ vs=>bif Nat.beq vs.length p.2.1 then bif Nat.ble (p.1+p.2.1) cells.length then fL (splice cells p.1 vs) λ cells=>flX tm r cells K else False else False from h);cases hz:Nat.beq vs.length p.2.1<;>simp only[hz,cond_true,cond_false]at h;have hl:Nat.ble (p.1+p.2.1) cells.length=true:=by
   cases hl:Nat.ble (p.1+p.2.1) cells.length
   ·rw[hl]at h;exact h.elim
   ·rfl
  rw[hl]at h;simp only[cond_true,WY]at h;obtain ⟨cs,h1,h2⟩:=AkF hr h;refine ⟨cs,?_,h2⟩;simp only[List.map_cons,fill,hr.ev rfl h0,rE hc,List.length_map];rw[if_pos ⟨GU.1 hz,Nat.le_of_ble_eq_true hl⟩,<-Anz];exact h1
theorem Ap6 {z:List AV} {ps:List (Nat × Nat × C4)} (hr:RX σ tm M st) (h:XE L tm M c4 K (.build z ps)):HE L tm c4 K (.build z ps) st:=by
 simp only[XE]at h;cases hd:LX z<;>simp only[hd,cond_true,cond_false]at h;obtain ⟨cs,h1,h2⟩:=AkF hr h;refine HE.val hr (.agg cs) (λ C => ?_) h2;rw[Z5 hd]at h1;simp only[k6,h1];rfl
theorem Aku : ∀ l:List C4,rP tm l=l.map (ex tm)
 | []=>rfl
 | x::r=>by rw[rP,Aku r];rfl
theorem AiT : ∀ {es:List (List AV)},Tv es=true -> ∀ e∈es,LX e=true
 | e0::r,h,e,he=>by
  simp only[Tv]at h;cases h1:LX e0<;>simp only[h1,cond_true,cond_false]at h
  ·cases h
  ·rcases List.mem_cons.1 he with rfl|he
   ·exact h1
   ·exact AiT h e he
theorem Arz {es:List (List AV)} (h : ∀ e∈es,LX e=true):(es.map λ cs=>cs.map (E7 σ))=es:=by
 conv=>rhs;rw[<-List.map_id es]
 exact List.map_congr_left λ e he=>Z5 (h e he)
theorem Avt {es:List (List AV)} {K:Nat->Prop} (h:lnX es K):K es.length:=by
 unfold lnX at h;split at h<;>exact h
theorem Ail (hr:RX σ tm M st) {z:Nat} : ∀ {l:List C4} {K:List (List AV)->Prop},bsX tm z l K -> ∃ es,l.mapM (λ x=>cellsOf (st.ev x))=some (es.map λ cs=>cs.map (E7 σ))/\(∀ e∈es,e.length=z)/\(∀ k,X6 k tm=false->sI k es=false)/\K es
 | [],K,h=>⟨[],rfl,(λ e he=>by cases he),λ_ _=>rfl,h⟩
 | x::r,K,h=>by
  obtain ⟨h0,cs,hc,h⟩:=Ab0 (show fC (ex tm x) λ cs=>bif Nat.beq cs.length z then bsX tm z r λ es=>K (cs::es) else False from h);cases hz:Nat.beq cs.length z<;>simp only[hz,cond_true,cond_false]at h;obtain ⟨es,h1,h2,h4,h3⟩:=Ail hr h;refine ⟨cs::es,?_,λ e he => ?_,λ k hk => ?_,h3⟩
  ·rw[List.mapM_cons,h1,hr.ev rfl h0,rE hc];rfl
  ·rcases List.mem_cons.1 he with rfl|he
   ·exact GU.1 hz
   ·exact h2 e he
  ·simp only[sI,AmV (Akx hk x) hc,cond_false,h4 k hk]
theorem evL (hr:RX σ tm M st) {xs:List C4} (h : ∀ v∈rP tm xs,v ≠ .any):xs.map st.ev=(rP tm xs).map (FG σ):=by
 rw[Aku]at h ⊢;rw[List.map_map];exact List.map_congr_left λ x hx=>hr.ev rfl (h _ (List.mem_map_of_mem hx))
theorem Ap5 {s z:Nat} {ps:List C4} (hr:RX σ tm M st) (h:XE L tm M c4 K (.a9 s z ps)):HE L tm c4 K (.a9 s z ps) st:=by
 simp only[XE]at h;cases sw:OM s<;>simp only[sw,cond_true,cond_false]at h;obtain ⟨es,g1,g2,g3,h⟩:=Ail hr h;obtain ⟨k,h1,h2,h3⟩:=ZU (Avt h);have key : ∀ c:FB,c.flat->X5 k c=false->c.k8 σ k=⟨z,es.map λ cs=>cs.map (E7 σ)⟩->K (.row k 0 z 0 es.length) ((k,s,c)::M)->HE L tm c4 K (.a9 s z ps) st:=by
  intro c hf hc hb hk;refine ⟨.new s (c.k8 σ k) (λ t => .row s t z 0 es.length),_,_,_,λ C => ?_,hk,?_,hr.rk h1 h2 c hf hc (λ_=>sw)⟩
  ·simp only[k6,g1,hb]
   rw[if_pos (λ e he=>by obtain ⟨e',oz,rfl⟩:=List.mem_map.1 he;simpa using g2 e' oz)];simp only[List.length_map]
  ·simp only[H5.res,KW,HK]
 cases hd:Tv es<;>simp only[hd,cond_true,cond_false]at h3
 ·exact key (.bs z es) trivial (g3 k h2) rfl h3
 ·exact key (.rw z es) trivial rfl (by simp only[FB.k8];rw[Arz (AiT hd)]) h3
theorem Ap9 {x:C4} {off:Nat} (hr:RX σ tm M st) (h:XE L tm M c4 K (.m4 x off)):HE L tm c4 K (.m4 x off) st:=by
 simp only[XE]at h;split at h
 ·rename_i key t i j e
  exact HE.val hr _ (λ C=>by simp only[k6,hr.ev e (by intro e;cases e),XC,V6,X7,KW,MJ,aD,PN,ZO,ZP]) h
 ·rename_i cs e
  rw[WY]at h;exact HE.val hr _ (λ C=>by simp only[k6,hr.ev e (by intro e;cases e),XC,V6,X7,KW,MJ,aD,PN,ZO,ZP]) h
 ·exact h.elim
theorem Aqa {x:C4} {off n:Nat} {agg:Bool} (hr:RX σ tm M st) (h:XE L tm M c4 K (.ye x off n agg)):HE L tm c4 K (.ye x off n agg) st:=by
 simp only[XE]at h;split at h
 ·rename_i cs e
  split at h
  ·rename_i ds hp
   rw[WY]at h;obtain ⟨v,h1,h2⟩:=sF σ h;exact HE.val hr v (λ C=>by simp only[k6,hr.ev e (by intro e;cases e),ZO,Acu hp,h1,Option.map_some]) h2
  ·exact h.elim
 ·exact h.elim
theorem Aqc {arr:Option Nat} {z:Nat} {x i:C4} (hr:RX σ tm M st) (h:XE L tm M c4 K (.ch arr z x i)):HE L tm c4 K (.ch arr z x i) st:=by
 simp only[XE]at h;split at h
 ·rename_i kd n e1
  split at h
  ·rename_i len key t i' j e2
   obtain ⟨h1,h2⟩:=h;exact HE.val hr _ (λ C=>by simp only[k6,hr.ev e1 (by intro e;cases e),hr.ev e2 (by intro e;cases e),XC,V6,X7,KW,MJ,aD,PN,ZO,ZP];rw[if_pos h1]) h2
  ·rename_i len cs e2
   obtain ⟨h1,h2⟩:=h;rw[WY]at h2;exact HE.val hr _ (λ C=>by simp only[k6,hr.ev e1 (by intro e;cases e),hr.ev e2 (by intro e;cases e),XC,V6,X7,KW,MJ,aD,PN,ZO,ZP];rw[if_pos h1]) h2
  ·rename_i key t z' off len e2
   cases hz:Nat.beq z' z<;>simp only[hz,cond_true,cond_false]at h;obtain ⟨h1,h2⟩:=h;exact HE.val hr _ (λ C=>by simp only[k6,hr.ev e1 (by intro e;cases e),hr.ev e2 (by intro e;cases e),XC,V6,X7,KW,MJ,aD,PN,ZO,ZP];rw[if_pos ⟨h1.1,h1.2,GU.1 hz⟩]) h2
  ·rename_i q es e2
   obtain ⟨h1,cs,h2,h3,h4⟩:=h;exact HE.val hr _ (λ C=>by simp only[k6,hr.ev e1 (by intro e;cases e),hr.ev e2 (by intro e;cases e),XC,V6,X7,KW,MJ,aD,PN,ZO,ZP,h2];rw[if_pos h1,if_pos h3]) h4
  ·exact h.elim
 ·exact h.elim
theorem yC {s:Nat} {own:C2} : ∀ {c4:List Nat},sG s c4=true->own.w6 c4 s=own s
 | [],_=>rfl
 | b::r,h=>by
  have hm:aP s (b::r)=false:=by simpa [sG] using h
  have : ∀ l:List Nat,aP s l=false->own.w6 l s=own s:=by
   intro l;induction l with
   | nil=>intro _;rfl
   | cons b r ih =>
    intro h;simp only[aP]at h;cases hb:Nat.beq s b<;>simp only[hb,cond_true,cond_false]at h
    ·simp only[C2.w6]
     rw[if_neg (OB.1 hb)];exact ih h
    ·cases h
  exact this _ hm
theorem AfX {s:Nat} {own:C2} (hs:OM s=true) : ∀ {c4:List Nat},uN c4=true->own.w6 c4 s=own s
 | [],_=>rfl
 | b::r,h=>by
  simp only[uN]at h;cases hb:OM b<;>simp only[hb,cond_true,cond_false]at h
  ·have u5:s≠b:=λ e=>by rw[e,hb]at hs;cases hs
   show (if s=b then _ else own.w6 r s)=own s;rw[if_neg u5];exact AfX hs h
  ·cases h
theorem Aqe {agg:Bool} {n:Nat} {x:C4} (hr:RX σ tm M st) (h:XE L tm M c4 K (.ld agg n x)):HE L tm c4 K (.ld agg n x) st:=by
 simp only[XE]at h;split at h
 ·rename_i key t i j e
  split at h
  ·rename_i s c hm
   have hs:=hr.sat.site _ _ _ hm;split at h
   ·cases hb:sG s c4<;>simp only[hb,cond_true,cond_false]at h
    have fk:=hr.sat.k8 _ _ _ (MI hm);rw[hs]at fk;split at h
    ·rename_i cs
     cases hi:Nat.beq i 0<;>simp only[hi,cond_true,cond_false]at h;obtain rfl:=GU.1 hi;split at h
     ·rename_i ds hp
      rw[WY]at h;obtain ⟨v,h1,h2⟩:=sF σ h;exact HE.val hr v (λ C=>by
       simp only[k6,hr.ev e (by intro e;cases e),MJ,C2.Ao,C2.get,hs];rw[yC hb,fk];simp only[FB.k8,List.getElem?_cons_zero,Acu hp,h1,Option.map_some]) h2
     ·exact h.elim
    ·rename_i z es
     obtain ⟨cs,ds,g1,g2,h⟩:=h;rw[WY]at h;cases hd:LX ds<;>simp only[hd,cond_true,cond_false]at h;obtain ⟨v,h1,h2⟩:=sF σ h;rw[Z5 hd]at h1;exact HE.val hr v (λ C=>by
      simp only[k6,hr.ev e (by intro e;cases e),MJ,C2.Ao,C2.get,hs];rw[yC hb,fk];simp only[FB.k8,g1,g2,h1,Option.map_some]) h2
    ·rename_i z es
     split at h
     ·rename_i cs g1
      split at h
      ·rename_i ds hp
       rw[WY]at h;obtain ⟨v,h1,h2⟩:=sF σ h;exact HE.val hr v (λ C=>by
        simp only[k6,hr.ev e (by intro e;cases e),MJ,C2.Ao,C2.get,hs];rw[yC hb,fk];simp only[FB.k8,List.getElem?_map,g1,Option.map_some,Acu hp,h1]) h2
      ·exact h.elim
     ·exact h.elim
    ·rename_i rows
     cases hj:Nat.beq j 0<;>simp only[hj,cond_true,cond_false]at h;cases hn:Nat.beq n 1<;>simp only[hn,cond_true,cond_false]at h;obtain rfl:=GU.1 hj;obtain rfl:=GU.1 hn;obtain ⟨r,g1,h⟩:=h;have fin : ∀ c:AV,(IE σ key 0 rows)[i]? = some [E7 σ c]->Bo agg [c] (λ v=>K v M)->HE L tm c4 K (.ld agg 1 x) st:=by
      intro c hc h;obtain ⟨v,h1,h2⟩:=sF σ h;have hp:part [E7 σ c] 0 1=some [E7 σ c]:=by simp [part]
      exact HE.val hr v (λ C=>by
       simp only[k6,hr.ev e (by intro e;cases e),MJ,C2.Ao,C2.get,hs];rw[yC hb,fk];simp only[FB.k8,hc,hp];simp only[List.map_cons,List.map_nil]at h1;simp only[h1,Option.map_some]) h2
     split at h
     ·rename_i z es
      exact fin _ (by rw[V5,g1];simp [E7]) h
     ·exact fin _ (by rw[V5,g1];simp [E7]) h
    ·exact h.elim
    ·exact h.elim
   ·rename_i i'
    split at h
    ·rename_i rows
     obtain ⟨z,es,g0,cs,ds,g1,g2,h⟩:=h;rw[WY]at h;cases hd:LX ds<;>simp only[hd,cond_true,cond_false]at h;obtain ⟨v,h1,h2⟩:=sF σ h;rw[Z5 hd]at h1;have fk:=hr.sat.k8 key (i'+1) (.rw z es) (by simp [g6,hm,g0]);exact HE.val hr v (λ C=>by
      simp only[k6,hr.ev e (by intro e;cases e),MJ,C2.Ao,C2.get,C2.w6];rw[fk];simp only[FB.k8,g1,g2,h1,Option.map_some]) h2
    ·rename_i rows b r
     cases hb:uN (b::r)<;>simp only[hb,cond_true,cond_false]at h;obtain ⟨z,es,g0,cs,ds,g1,g2,h⟩:=h;rw[WY]at h;cases hd:LX ds<;>simp only[hd,cond_true,cond_false]at h;obtain ⟨v,h1,h2⟩:=sF σ h;rw[Z5 hd]at h1;have g':g6 M key (i'+1)=some (.rw z es):=by simp [g6,hm,g0]
     have fk:=hr.sat.k8 key (i'+1) (.rw z es) g';have sw:=hr.sat.low key (i'+1) _ g' rfl;exact HE.val hr v (λ C=>by
      simp only[k6,hr.ev e (by intro e;cases e),MJ,C2.Ao,C2.get];rw[AfX sw hb,fk];simp only[FB.k8,g1,g2,h1,Option.map_some]) h2
    ·exact h.elim
  ·exact h.elim
 ·rename_i cs e
  split at h
  ·rename_i ds hp
   rw[WY]at h;cases hd:LX ds<;>simp only[hd,cond_true,cond_false]at h;obtain ⟨v,h1,h2⟩:=sF σ h;rw[Z5 hd]at h1;exact HE.val hr v (λ C=>by simp only[k6,hr.ev e (by intro e;cases e),aD,hp,h1,Option.map_some]) h2
  ·exact h.elim
 ·exact h.elim
theorem Ah6 {n:Nat} {x v:C4} (hr:RX σ tm M st) (h:XE L tm M c4 K (.st n x v)):HE L tm c4 K (.st n x v) st:=by
 simp only[XE,stX]at h;split at h
 ·rename_i key t i j e
  obtain ⟨h0,vs,hc,h5⟩:=Ab0 h;clear h;cases hn:Nat.beq vs.length n<;>simp only[hn,cond_true,cond_false]at h5;have Df:=GU.1 hn;split at h5
  ·rename_i s c hm
   have hs:=hr.sat.site _ _ _ hm;split at h5
   ·have fk:=hr.sat.k8 _ _ _ (MI hm)
    rw[hs]at fk;split at h5
    ·rename_i cs
     cases hi:Nat.beq i 0<;>simp only[hi,cond_true,cond_false]at h5;obtain rfl:=GU.1 hi;have hl:Nat.ble (j+vs.length) cs.length=true:=by
      cases hl:Nat.ble (j+vs.length) cs.length
      ·rw[hl]at h5;exact h5.elim
      ·rfl
     rw[hl]at h5;simp only[cond_true,WY]at h5;refine ⟨.mn (.j5 []) (st.own.put s ((st.own s).cr (σ key 0).2 (some (FB.k8 σ key (.bx (splice cs j vs)))))),σ,_,_,λ C => ?_,h5,rfl,hr.stq hm trivial _ trivial (λ h=>nomatch h)⟩;simp only[k6,hr.ev e (by intro e;cases e),MJ,hr.ev rfl h0,rE hc,List.length_map];rw[if_pos Df];simp only[C2.yc,C2.get,hs,fk,FB.k8,List.getElem?_cons_zero,List.length_map];rw[if_pos (Nat.le_of_ble_eq_true hl)];simp only[Option.map_some,List.set_cons_zero,Anz];have:(splice cs j vs).length=cs.length:=by
      have:=Nat.le_of_ble_eq_true hl
      simp only[splice,List.length_append,List.length_take,List.length_drop];omega
     rw[this]
    ·rename_i z es
     cases hd:LX vs<;>simp only[hd,cond_true,cond_false]at h5;obtain ⟨cs,g1,g2,h5⟩:=h5;refine ⟨.mn (.j5 []) (st.own.put s ((st.own s).cr (σ key 0).2 (some (FB.k8 σ key (.rw z (es.set i (splice cs j vs))))))),σ,_,_,λ C => ?_,h5,rfl,hr.stq hm trivial _ trivial (λ_=>rfl)⟩;simp only[k6,hr.ev e (by intro e;cases e),MJ,hr.ev rfl h0,rE hc,Z5 hd];rw[if_pos Df];simp only[C2.yc,C2.get,hs,fk,FB.k8,g1];rw[if_pos g2];rfl
    ·exact h5.elim
    ·rename_i rows
     split at h5
     ·rename_i im z m
      cases yl:Nat.beq key im<;>simp only[yl,cond_true,cond_false]at h5;cases jf:nR key tm<;>simp only[jf,cond_true,cond_false]at h5;cases En:cA key M<;>simp only[En,cond_true,cond_false]at h5;cases hj:Nat.beq j 0<;>simp only[hj,cond_true,cond_false]at h5;obtain rfl:=GU.1 hj;split at h5
      ·rename_i s2 z' es od
       cases hz:Nat.beq z z'<;>simp only[hz,cond_true,cond_false]at h5;obtain rfl:=GU.1 hz;rw[qB]at h5;obtain ⟨rfl,hi,h5⟩:=h5;have hlen:(IE σ key 0 rows)[i]? = some ((IE σ key 0 rows)[i]'(by rw[PJ];exact hi)):=zE _;have Ag:((IE σ key 0 rows)[i]'(by rw[PJ];exact hi)).length=1:=by
        have:=V5 (σ:=σ) (k:=key) rows 0 i
        rw[hlen,zE hi]at this;simp only[Option.map_some,Option.some.injEq]at this;rw[this];split<;>rfl
       refine ⟨.mn (.j5 []) (st.own.put s ((st.own s).cr (σ key 0).2 (some ⟨1,(IE σ key 0 rows).set i [.row (σ im 0).1 (σ im 0).2 z 0 es.length]⟩))),_,_,_,λ C => ?_,h5,rfl,hr.Pb hm (Or.inl rfl) od (OB.1 yl) jf En hi⟩;simp only[k6,hr.ev e (by intro e;cases e),MJ,hr.ev rfl h0,rE hc,List.length_map];rw[if_pos Df];simp only[C2.yc,C2.get,hs,fk,FB.k8,hlen,List.map_cons,List.map_nil,List.length_cons,List.length_nil,E7];rw[if_pos (by omega)];simp only[Option.map_some];have hsp:splice ((IE σ key 0 rows)[i]'(by rw[PJ];exact hi)) 0 [.row (σ im 0).1 (σ im 0).2 z 0 es.length]=[.row (σ im 0).1 (σ im 0).2 z 0 es.length]:=by
        simp only[splice,List.take_zero,List.nil_append,List.length_cons,List.length_nil,Nat.zero_add];rw[List.drop_of_length_le (by omega)];rfl
       rw[hsp]
      ·exact h5.elim
     ·exact h5.elim
    ·rename_i i0 v0 rows
     split at h5
     ·rename_i im z m
      cases yl:Nat.beq key im<;>simp only[yl,cond_true,cond_false]at h5;cases jf:nR key tm<;>simp only[jf,cond_true,cond_false]at h5;cases En:cA key M<;>simp only[En,cond_true,cond_false]at h5;cases hj:Nat.beq j 0<;>simp only[hj,cond_true,cond_false]at h5;obtain rfl:=GU.1 hj;split at h5
      ·rename_i s2 z' es od
       cases hz:Nat.beq z z'<;>simp only[hz,cond_true,cond_false]at h5;obtain rfl:=GU.1 hz;rw[qB]at h5;obtain ⟨⟨rfl,rfl⟩,hi,h5⟩:=h5;refine ⟨.mn (.j5 []) (st.own.put s ((st.own s).cr (σ key 0).2 (some ⟨1,(IE σ key 0 rows).set i [.row (σ im 0).1 (σ im 0).2 z 0 es.length]⟩))),_,_,_,λ C => ?_,h5,rfl,hr.Pb hm (Or.inr ⟨v0,rfl⟩) od (OB.1 yl) jf En hi⟩;simp only[k6,hr.ev e (by intro e;cases e),MJ,hr.ev rfl h0,rE hc,List.length_map];rw[if_pos Df];simp only[C2.yc,C2.get,hs,fk,FB.k8,List.getElem?_set_self (show i<(IE σ key 0 rows).length by rw[PJ];exact hi),List.map_cons,List.map_nil,List.length_cons,List.length_nil,E7];rw[if_pos (by omega)];simp only[Option.map_some,List.set_set];rfl
      ·exact h5.elim
     ·exact h5.elim
    ·exact h5.elim
   ·rename_i i'
    split at h5
    ·rename_i rows
     cases hd:LX vs<;>simp only[hd,cond_true,cond_false]at h5;obtain ⟨z,es,g0,cs,g1,g2,g3,h5⟩:=h5;have fk:=hr.sat.k8 key (i'+1) (.rw z es) (by simp [g6,hm,g0]);refine ⟨.mn (.j5 []) (st.own.put (σ key (i'+1)).1 ((st.own (σ key (i'+1)).1).cr (σ key (i'+1)).2 (some ⟨z,es.set i (splice cs j vs)⟩))),σ,_,_,λ C => ?_,h5,rfl,hr.AE8 hm g0 g3⟩;simp only[k6,hr.ev e (by intro e;cases e),MJ,hr.ev rfl h0,rE hc,Z5 hd];rw[if_pos Df];simp only[C2.yc,C2.get,fk,FB.k8,g1];rw[if_pos g2];rfl
    ·exact h5.elim
  ·exact h5.elim
 ·exact h.elim
theorem Aqg {s z bytes:Nat} {zero:List AV} {a c:C4} (hr:RX σ tm M st) (h:XE L tm M c4 K (.mk s z bytes zero a c)):HE L tm c4 K (.mk s z bytes zero a c) st:=by
 simp only[XE]at h;split at h
 ·rename_i k1 p k2 q e1 e2
  cases hz:Nat.beq zero.length z<;>simp only[hz,cond_true,cond_false]at h;cases hd:LX zero<;>simp only[hd,cond_true,cond_false]at h;split at h
  ·cases sw:OM s<;>simp only[sw,cond_true,cond_false]at h
   obtain ⟨⟨g1,g2,g3,g4⟩,h⟩:=h;obtain ⟨k,h1,h2,h3⟩:=ZU h;have qe:FB.flat (.mx (List.replicate p.toNat none)):=by
    intro i x hx;have:=List.getElem?_replicate (n:=p.toNat) (a:=(none:Option (Nat × List (List AV)))) (i:=i)
    rw[this]at hx;split at hx<;>cases hx
   have tj:z=1:=(GU.1 hz).symm;have vg:FB.k8 σ k (.mx (List.replicate p.toNat none))=⟨z,List.replicate p.toNat [.nil]⟩:=by
    simp only[FB.k8,tj];congr 1;have : ∀ (n i:Nat),IE σ k i (List.replicate n none)=List.replicate n [AV.nil]:=by
     intro n;induction n with
     | zero=>intro i;rfl
     | succ n ih=>intro i;rw[List.replicate_succ,List.replicate_succ,IE,ih]
    exact this _ _
   refine ⟨.new s (FB.k8 σ k (.mx (List.replicate p.toNat none))) (λ t => .row s t z 0 p.toNat),_,_,_,λ C => ?_,h3,?_,hr.rk h1 h2 (.mx _) qe rfl (λ_=>sw)⟩
   ·simp only[k6,hr.ev e1 (by intro e;cases e),hr.ev e2 (by intro e;cases e),XC,vg]
    rw[if_pos ⟨g1,g2,g3,g4,GU.1 hz⟩]
   ·simp only[H5.res,KW,HK]
  ·cases sw:OM s<;>simp only[sw,cond_true,cond_false]at h
   obtain ⟨⟨g1,g2,g3,g4⟩,h⟩:=h;obtain ⟨k,h1,h2,h3⟩:=ZU h;refine ⟨.new s ⟨z,List.replicate p.toNat zero⟩ (λ t => .row s t z 0 p.toNat),_,_,_,λ C => ?_,h3,?_,hr.rk h1 h2 (.rw z _) trivial rfl (λ_=>sw)⟩
   ·simp only[k6,hr.ev e1 (by intro e;cases e),hr.ev e2 (by intro e;cases e),XC]
    rw[if_pos ⟨g1,g2,g3,g4,GU.1 hz⟩]
   ·simp only[H5.res,KW,HK]
 ·exact h.elim
theorem Aky {v:AV} {K:AV->Prop} (h:f2 v K):v ≠ .any/\FG σ v=GD σ v/\K v:=by
 cases v<;>simp only[f2,WY]at h<;>first|exact h.elim|exact ⟨(by intro e;cases e),rfl,h⟩
theorem Alx : ∀ (vs:List AV) (i:Nat),Kc vs i ≠ .any->vs[i]? = some (Kc vs i)
 | [],_,h=>absurd rfl h
 | _::_,0,_=>rfl
 | _::r,i+1,h=>Alx r i h
theorem Ap8 {x:C4} {i:Nat} (hr:RX σ tm M st) (h:XE L tm M c4 K (.ext x i)):HE L tm c4 K (.ext x i) st:=by
 simp only[XE]at h;split at h
 ·rename_i vs e
  obtain ⟨h1,h2,h3⟩:=Aky (σ:=σ) h;refine HE.val hr _ (λ C => ?_) h3;simp only[k6,hr.ev e (by intro e;cases e),ZP,List.getElem?_map,Alx vs i h1,Option.map_some,h2]
 ·exact h.elim
theorem Aqf {x:C4} (hr:RX σ tm M st) (h:XE L tm M c4 K (.len x)):HE L tm c4 K (.len x) st:=by
 simp only[XE]at h;split at h
 ·rename_i q es e
  exact HE.val hr _ (λ C=>by simp only[k6,hr.ev e (by intro e;cases e),X7,qF];rfl) h.h
 ·rename_i e
  exact HE.val hr _ (λ C=>by simp only[k6,hr.ev e (by intro e;cases e),PN,qF];rfl) h
 ·rename_i e
  exact HE.val hr _ (λ C=>by simp only[k6,hr.ev e (by intro e;cases e),KW,qF];rfl) h
 ·exact h.elim
theorem Amb {mx:Bool} {k:IntKind} {K:AV->Prop} : ∀ {l:List AV} {a:Int},uK mx k K a l -> ∃ n,cN mx (.int k a) l=some (.int k n)/\K (.int k n)/\(∀ v∈l,v ≠ .any/\FG σ v=v)
 | [],a,h=>⟨a,rfl,h,λ v hv=>by cases hv⟩
 | v::r,a,h=>by
  cases v with
  | int k' b =>
   have h:(bif mx then B0 (a<b) (b<=a) (uK mx k K b r) (uK mx k K a r) else B0 (b<a) (a<=b) (uK mx k K b r) (uK mx k K a r)):=h;have fin : ∀ c:Int,qK mx (.int k a) (.int k' b)=some (.int k c)->uK mx k K c r -> ∃ n,cN mx (.int k a) (.int k' b::r)=some (.int k n)/\K (.int k n)/\(∀ v∈AV.int k' b::r,v ≠ .any/\FG σ v=v):=by
    intro c hc hx;obtain ⟨n,h1,h2,h3⟩:=Amb hx;refine ⟨n,by simp only[cN,hc,h1],h2,λ v hv => ?_⟩;rcases List.mem_cons.1 hv with rfl|hv
    ·exact ⟨(by intro e;cases e),rfl⟩
    ·exact h3 v hv
   cases mx
   ·simp only[cond_false]at h
    by_cases hc:b<a
    ·exact fin b (by simp [qK,hc]) (h.1 hc)
    ·exact fin a (by simp [qK,hc]) (h.2 (by omega))
   ·simp only[cond_true]at h
    by_cases hc:a<b
    ·exact fin b (by simp [qK,hc]) (h.1 hc)
    ·exact fin a (by simp [qK,hc]) (h.2 (by omega))
  | _=>exact (h:False).elim
theorem Aqi {mx:Bool} {xs:List C4} (hr:RX σ tm M st) (h:XE L tm M c4 K (.mm mx xs)):HE L tm c4 K (.mm mx xs) st:=by
 simp only[XE]at h;split at h
 ·rename_i k a r e
  obtain ⟨n,h1,h2,h3⟩:=Amb (σ:=σ) h;refine HE.val hr (.int k n) (λ C => ?_) h2;have hx : ∀ v∈rP tm xs,v ≠ .any:=by
   rw[e];intro v hv;rcases List.mem_cons.1 hv with rfl|hv
   ·intro e;cases e
   ·exact (h3 v hv).1
  have hm:(rP tm xs).map (FG σ) = .int k a::r:=by
   rw[e,List.map_cons];congr 1;conv=>rhs;rw[<-List.map_id r]
   exact List.map_congr_left λ v hv=>(h3 v hv).2
  simp only[k6];rw[show xs.map st.ev = .int k a::r from (evL hr hx).trans hm];simp only[h1,Option.map_some,XC]
 ·exact h.elim
theorem AwS (hr:RX σ tm M st) {k t:Nat} {K:Nat->List (List AV)->Prop} (h:rwX M k t K) : ∃ z es,(st.own (σ k t).1).k8 (σ k t).2=some ⟨z,es⟩/\K z es:=by
 unfold rwX at h;split at h
 ·rename_i s c hm
  split at h
  ·split at h
   ·exact ⟨_,_,hr.sat.k8 _ _ _ (MI hm),h⟩
   ·exact h.elim
  ·rename_i i
   split at h
   ·rename_i rows
    obtain ⟨z,es,g,h⟩:=h;exact ⟨z,es,hr.sat.k8 k (i+1) (.rw z es) (by simp [g6,hm,g]),h⟩
   ·exact h.elim
 ·exact h.elim
theorem Axs {own q8:C2} {s t i j:Nat} {vs:List AV} (h:own.yc s t i j vs=some q8):own.put s (q8 s)=q8:=by
 unfold C2.yc at h;cases hg:own.get s t with
 | none=>simp [hg]at h
 | some b =>
  simp only[hg]at h;cases he:b.es[i]? with
  | none=>simp [he]at h
  | some cs =>
   simp only[he]at h;split at h
   ·obtain rfl:=Option.some.inj h
    rw[C2.n6]
   ·cases h
theorem Aqn {s n:Nat} {x v:C4} (hr:RX σ tm M st) (h:XE L tm M c4 K (.zi s n x v)):HE L tm c4 K (.zi s n x v) st:=by
 simp only[XE]at h;split at h
 ·rename_i key i j e1
  split at h
  ·rename_i s' c hm
   cases hb:Nat.beq s' s<;>simp only[hb,cond_true,cond_false]at h;obtain rfl:=GU.1 hb;have mg:=hr.sat.site _ _ _ hm;obtain ⟨E,σ',v',M',h1,h2,h3,h4⟩:=Ah6 (c4:=c4) (L:=L) hr (show XE L tm M c4 K (.st n x v) from h);have iv:=hr.ev e1 (by intro e;cases e);rw[MJ,mg]at iv;have key : ∀ vs,cellsOf (st.ev v)=some vs->vs.length=n -> ∃ o',st.own.yc s' (σ key 0).2 i j vs=some o'/\E = .mn (.j5 []) o':=λ vs mi hn=>by
    have:=h1 0
    simp only[k6,iv,mi]at this;rw[if_pos hn,Option.map_eq_some_iff]at this;obtain ⟨o',a1,a2⟩:=this;exact ⟨o',a1,a2.symm⟩
   cases mi:cellsOf (st.ev v) with
   | none=>have:=h1 0;simp [k6,iv,mi]at this
   | some vs =>
    by_cases hn:vs.length=n
    ·obtain ⟨o',a1,rfl⟩:=key vs mi hn
     refine ⟨.cr s' (o' s'),σ',v',M',λ C => ?_,h2,h3,?_⟩
     ·simp only[k6,iv,mi]
      rw[if_pos ⟨trivial,hn⟩,a1];rfl
     ·have e2:(H5.res st.own (.cr s' (o' s'))).2=o':=Axs a1
      rw[e2];exact h4
    ·have:=h1 0
     simp only[k6,iv,mi]at this;rw[if_neg hn]at this;cases this
  ·exact h.elim
 ·exact h.elim
theorem Aqd {ne:Bool} {x:C4} (hr:RX σ tm M st) (h:XE L tm M c4 K (.Cq ne x)):HE L tm c4 K (.Cq ne x) st:=by
 simp only[XE]at h;split at h
 ·rename_i e1
  rw[rR]at h;exact HE.val hr _ (λ C=>by simp only[k6,hr.ev e1 (by intro e;cases e),PN,V6]) h
 ·rename_i b e1
  rw[rR]at h;exact HE.val hr _ (λ C=>by simp only[k6,hr.ev e1 (by intro e;cases e),AwT,V6]) h
 ·rename_i q es e1
  obtain ⟨h0,h⟩:=h;rw[rR]at h;cases es with
  | nil=>exact absurd rfl h0
  | cons e es=>exact HE.val hr _ (λ C=>by simp only[k6,hr.ev e1 (by intro e;cases e),X7,V6]) h
 ·rename_i s t z o n e1
  obtain ⟨h0,h⟩:=h;rw[rR]at h;cases n with
  | zero=>exact absurd h0 (by omega)
  | succ n=>exact HE.val hr _ (λ C=>by simp only[k6,hr.ev e1 (by intro e;cases e),KW,V6]) h
 ·exact h.elim
theorem Aql {tb:List Nat} {x:C4} (hr:RX σ tm M st) (h:XE L tm M c4 K (.nw tb x)):HE L tm c4 K (.nw tb x) st:=by
 simp only[XE]at h;split at h
 ·rename_i k n e1
  obtain ⟨h0,v,h1,h2⟩:=h;exact HE.val hr _ (λ C=>by simp only[k6,hr.ev e1 (by intro e;cases e),XC,h1];rw[if_pos h0]) h2
 ·exact h.elim
theorem At4 {v:AV} {K:AV->Prop} (h:fF v K):v ≠ .any/\QL (FG σ v)=some (E7 σ v)/\K v:=by
 cases v<;>first|exact (h:False).elim|exact ⟨(by intro e;cases e),rfl,h⟩
theorem Aml (hr:RX σ tm M st) : ∀ {l:List C4} {K:List AV->Prop},oaX tm l K -> ∃ cs,l.mapM (λ x=>QL (st.ev x))=some (cs.map (E7 σ))/\K cs
 | [],K,h=>⟨[],rfl,h⟩
 | x::r,K,h=>by
  obtain ⟨h0,hc,h⟩:=At4 (σ:=σ) (show fF (ex tm x) λ v=>oaX tm r λ cs=>K (v::cs) from h);obtain ⟨cs,h1,h2⟩:=Aml hr h;refine ⟨ex tm x::cs,?_,h2⟩;rw[List.mapM_cons,h1,hr.ev rfl h0,hc];rfl
theorem Aqh {p:Bool} {f:Nat} {xs:List C4} (hr:RX σ tm M st) (h:XE L tm M c4 K (.zh p f xs)):HE L tm c4 K (.zh p f xs) st:=by
 simp only[XE]at h;obtain ⟨cs,h1,h2⟩:=Aml hr h;exact HE.val hr _ (λ C=>by simp only[k6,h1,Option.map_some,AcK,List.isEmpty_map];rfl) h2
theorem AsJ (hr:RX σ tm M st) {v:AV} {K:List (List AV)->Prop} (h:elX M v K):v ≠ .any /\ ∃ es,MV st.own (FG σ v)=some es/\K es:=by
 cases v with
 | sl q es=>exact ⟨(by intro e;cases e),_,rfl,h⟩
 | nil=>exact ⟨(by intro e;cases e),_,rfl,h⟩
 | gx v =>
  cases v with
  | bool b=>exact ⟨(by intro e;cases e),_,rfl,h⟩
  | _=>exact (h:False).elim
 | row key t z off len =>
  simp only[elX]at h;obtain ⟨z',es,g,h⟩:=AwS hr h;cases hz:Nat.beq z z'<;>simp only[hz,cond_true,cond_false]at h;obtain rfl:=GU.1 hz;refine ⟨(by intro e;cases e),_,?_,h.2⟩;simp only[KW,MV,C2.get,g];rw[if_pos ⟨h.1,trivial⟩]
 | _=>exact (h:False).elim
theorem AfV (hr:RX σ tm M st) {o:Option C4} {K:Option Int->Prop} (h:obX tm o K):(o=none/\K none) \/ ∃ x k n,o=some x/\st.ev x = .int k n/\K (some n):=by
 unfold obX at h;split at h
 ·exact Or.inl ⟨rfl,h⟩
 ·split at h
  ·rename_i e
   exact Or.inr ⟨_,_,_,rfl,hr.ev e (by intro e;cases e),h⟩
  ·exact h.elim
theorem Aqm {z:Nat} {x:C4} {lo hi:Option C4} (hr:RX σ tm M st) (h:XE L tm M c4 K (.kv z x lo hi)):HE L tm c4 K (.kv z x lo hi) st:=by
 simp only[XE]at h;have go : ∀ (a b:Option Int),(match ex tm x with
   | .sl l es=>H4 z es a b λ es=>K (.sl l es) M
   | .row key t z' off len=>bif Nat.beq z' z then HH a b len λ a h=>K (.row key t z (off+a) (h-a)) M else False
   | .nil=>(match a,b with
    | none,none=>K .nil M
    | some a,none=>D8 (a=0) (K .nil M)
    | none,some h=>D8 (h=0) (K .nil M)
    | some a,some h=>D8 (a=0/\h=0) (K .nil M))
   | _=>False)->(lo=none/\a=none \/ ∃ y k n,lo=some y/\st.ev y = .int k n/\a=some n)->(hi=none/\b=none \/ ∃ y k n,hi=some y/\st.ev y = .int k n/\b=some n)->HE L tm c4 K (.kv z x lo hi) st:=by
  intro a b h ha hb;split at h
  ·rename_i q es e
   obtain ⟨g1,a',h',g2,g3,g4,h⟩:=h;refine HE.val hr _ (λ C => ?_) h;rcases ha with ⟨rfl,rfl⟩|⟨y,k,n,rfl,e1,rfl⟩<;>rcases hb with ⟨rfl,rfl⟩|⟨y',k',n',rfl,e2,rfl⟩<;>try simp only at g2 g3<;>simp only[k6,hr.ev e (by intro e;cases e),X7, *]<;>simp_all
  ·rename_i key t z' off len e
   cases hz:Nat.beq z' z<;>simp only[hz,cond_true,cond_false]at h;obtain rfl:=GU.1 hz;obtain ⟨a',h',g2,g3,g4,h⟩:=h;refine HE.val hr _ (λ C => ?_) h;rcases ha with ⟨rfl,rfl⟩|⟨y,k,n,rfl,e1,rfl⟩<;>rcases hb with ⟨rfl,rfl⟩|⟨y',k',n',rfl,e2,rfl⟩<;>try simp only at g2 g3<;>simp only[k6,hr.ev e (by intro e;cases e),KW, *]<;>simp_all
  ·rename_i e
   rcases ha with ⟨rfl,rfl⟩|⟨y,k,n,rfl,e1,rfl⟩<;>rcases hb with ⟨rfl,rfl⟩|⟨y',k',n',rfl,e2,rfl⟩<;>simp only at h
   ·exact HE.val hr .nil (λ C=>by simp only[k6,hr.ev e (by intro e;cases e),PN]) h
   ·exact HE.val hr .nil (λ C=>by simp only[k6,hr.ev e (by intro e;cases e),PN,e2,h.1,if_true]) h.2
   ·exact HE.val hr .nil (λ C=>by simp only[k6,hr.ev e (by intro e;cases e),PN,e1,h.1,if_true]) h.2
   ·exact HE.val hr .nil (λ C=>by simp only[k6,hr.ev e (by intro e;cases e),PN,e1,e2,h.1.1,h.1.2,if_true]) h.2
  ·exact h.elim
 rcases AfV hr h with ⟨h1,h⟩|⟨y,k,n,h1,h2,h⟩
 ·rcases AfV hr h with ⟨g1,h⟩|⟨y,k,n,g1,g2,h⟩
  ·exact go _ _ h (Or.inl ⟨h1,rfl⟩) (Or.inl ⟨g1,rfl⟩)
  ·exact go _ _ h (Or.inl ⟨h1,rfl⟩) (Or.inr ⟨_,_,_,g1,g2,rfl⟩)
 ·rcases AfV hr h with ⟨g1,h⟩|⟨y',k',n',g1,g2,h⟩
  ·exact go _ _ h (Or.inr ⟨_,_,_,h1,h2,rfl⟩) (Or.inl ⟨g1,rfl⟩)
  ·exact go _ _ h (Or.inr ⟨_,_,_,h1,h2,rfl⟩) (Or.inr ⟨_,_,_,g1,g2,rfl⟩)
theorem Agm {s key:Nat} : ∀ {M:Mem},QV s M=false->QV s (bg key M)=false
 | [],_=>rfl
 | (i,s0,c0)::r,h=>by
  simp only[QV]at h;cases q0:Nat.beq s i<;>simp only[q0,cond_true,cond_false]at h
  ·cases q1:X5 s c0<;>simp only[q1,cond_true,cond_false]at h
   ·simp only[bg]
    cases Nat.beq key i
    ·simp only[cond_false,QV,q0,q1,Agm h]
    ·simp only[cond_true,Agm h]
   ·cases h
  ·cases h
theorem Ap1 {s z bytes:Nat} {x y:C4} (hr:RX σ tm M st) (h:elX M (ex tm y) λ ys=>match ex tm x with
   | .row key 0 z' off len=>bif Nat.beq off 0 then bif Nat.beq z' z then (match g7 M key with
    | some (s',.rw ow es)=>bif Nat.beq ow z then fM (bg key M) λ M'=>(F9 es len ys z bytes λ es' n=>RP s tm M λ k=>K (.row k 0 z 0 n) ((k,s',.rw z es')::M')) else False
    | _=>False) else False else False
   | .row key (i+1) z' off len=>bif Nat.beq off 0 then bif Nat.beq z' z then (match g7 M key with
    | some (sk,.mx rows)=>fM (bg key M) λ M'=>H0 rows i λ ow es=>bif Nat.beq ow z then (F9 es len ys z bytes λ es' n => ∀ s' v,RP s tm M λ k=>K (.row k 0 z 0 n) ((k,s',.rw z es')::(key,sk,.hx i v (rows.set i none))::M')) else False
    | _=>False) else False else False
   | .nil=>bif OM s then IA ys z bytes λ es n=>RP s tm M λ k=>K (.row k 0 z 0 n) ((k,s,.rw z es)::M) else False
   | _=>False):HE L tm c4 K (.app s z bytes x y) st:=by
 obtain ⟨h0,ys,hy,h⟩:=AsJ hr h;have Lq:MV st.own (st.ev y)=some ys:=by rw[hr.ev rfl h0];exact hy
 split at h
 ·rename_i key z' off len e
  cases ho:Nat.beq off 0<;>simp only[ho,cond_true,cond_false]at h;cases hz:Nat.beq z' z<;>simp only[hz,cond_true,cond_false]at h;obtain rfl:=GU.1 ho;obtain rfl:=GU.1 hz;split at h
  ·rename_i s' ow es hm
   cases Cm:Nat.beq ow z'<;>simp only[Cm,cond_true,cond_false]at h;obtain rfl:=GU.1 Cm;rw[qB]at h;obtain ⟨g1,g2,g3,g4,h⟩:=h;obtain ⟨k,h1,h2,h3⟩:=ZU h;have hs:=hr.sat.site _ _ _ hm;have fk:=hr.sat.k8 _ _ _ (MI hm);have hn:=(hr.kill hm).rk (s:=k) (q:=s') (Agm h1) h2 (.rw ow (es.take len++ys)) trivial rfl (λ_=>by have:=hr.sat.low _ _ _ (MI hm) rfl;rwa [hs]at this);have ADm:(st.own.put s' ((st.own s').cr (σ key 0).2 none)).k9 s'=st.own.k9 s':=by simp [C2.k9,C2.n6,H1.cr]
   simp only[C2.n6,C2.Bp,ADm]at hn;refine ⟨.mn (.row s' (st.own.k9 s') ow 0 (len+ys.length)) (st.own.put s' (((st.own s').cr (σ key 0).2 none).new ⟨ow,es.take len++ys⟩)),_,_,_,λ C => ?_,h3,?_,hn⟩
   ·rw[hs]at fk
    simp only[k6,Lq,hr.ev e (by intro e;cases e),KW,C2.get,hs,fk,FB.k8];rw[if_pos g2,if_pos ⟨trivial,trivial,g1,g3,g4⟩]
   ·simp only[H5.res,KW,HK]
  ·exact h.elim
 ·rename_i key i z' off len e
  cases ho:Nat.beq off 0<;>simp only[ho,cond_true,cond_false]at h;cases hz:Nat.beq z' z<;>simp only[hz,cond_true,cond_false]at h;obtain rfl:=GU.1 ho;obtain rfl:=GU.1 hz;split at h
  ·rename_i sk rows hm
   rw[qB]at h;obtain ⟨ow,es,g0,h⟩:=h;cases Cm:Nat.beq ow z'<;>simp only[Cm,cond_true,cond_false]at h;obtain rfl:=GU.1 Cm;obtain ⟨g1,g2,g3,g4,h⟩:=h;have h:=h (σ key (i+1)).1 (.row (σ key (i+1)).1 (σ key (i+1)).2 ow 0 es.length);obtain ⟨k,h1,h2,h3⟩:=ZU h;have fk:=hr.sat.k8 key (i+1) (.rw ow es) (by simp [g6,hm,g0]);have hn:=hr.ADe (s:=k) (es':=es.take len++ys) hm g0 h1 h2;refine ⟨.mn (.row (σ key (i+1)).1 (st.own.k9 (σ key (i+1)).1) ow 0 (len+ys.length)) (st.own.put (σ key (i+1)).1 (((st.own (σ key (i+1)).1).cr (σ key (i+1)).2 none).new ⟨ow,es.take len++ys⟩)),_,_,_,λ C => ?_,h3,?_,hn⟩
   ·simp only[k6,Lq,hr.ev e (by intro e;cases e),KW,C2.get,fk,FB.k8]
    rw[if_pos g2,if_pos ⟨trivial,trivial,g1,g3,g4⟩]
   ·simp only[H5.res,KW,HK]
  ·exact h.elim
 ·rename_i e
  cases sw:OM s<;>simp only[sw,cond_true,cond_false]at h;obtain ⟨g2,g3,g4,h⟩:=h;obtain ⟨k,h1,h2,h3⟩:=ZU h;refine ⟨.mn (.row s (st.own.k9 s) z 0 ys.length) (st.own.put s ((st.own s).new ⟨z,ys⟩)),_,_,_,λ C => ?_,h3,?_,hr.rk h1 h2 (.rw z ys) trivial rfl (λ_=>sw)⟩
  ·simp only[k6,Lq,hr.ev e (by intro e;cases e),PN]
   rw[if_pos g2,if_pos ⟨g3,g4⟩]
  ·simp only[H5.res,KW,HK]
 ·exact h.elim
theorem Aqy {v:AV} {ky k2 z n:Nat} (h:tH M v=some (ky,some (k2,z,n))):v = .row ky 0 1 0 1 /\ ∃ sy,g7 M ky=some (sy,.bs 1 [[.row k2 0 z 0 n]]):=by
 unfold tH at h;split at h
 ·split at h
  ·rename_i hm
   simp only[Option.some.injEq,Prod.mk.injEq]at h;obtain ⟨rfl,rfl,rfl,rfl⟩:=h;exact ⟨rfl,_,hm⟩
  ·simp at h
  ·cases h
 ·cases h
theorem Aqv {v:AV} {ky:Nat} (h:tH M v=some (ky,none)):v = .row ky 0 1 0 1 /\ ∃ sy,g7 M ky=some (sy,.rw 1 [[.nil]]):=by
 unfold tH at h;split at h
 ·split at h
  ·simp at h
  ·rename_i hm
   simp only[Option.some.injEq,Prod.mk.injEq,and_true]at h;subst h;exact ⟨rfl,_,hm⟩
  ·cases h
 ·cases h
theorem Ap0 {s z bytes:Nat} {x y:C4} (hr:RX σ tm M st) (h:XE L tm M c4 K (.app s z bytes x y)):HE L tm c4 K (.app s z bytes x y) st:=by
 simp only[XE]at h;cases hV:Nat.ble 800000 s<;>simp only[hV,cond_true,cond_false]at h;split at h
 ·rename_i ky k2 z2 n2 hap
  obtain ⟨An,sy,Ii⟩:=Aqy hap;have vl:=hr.sat.site _ _ _ Ii;have Ej:=hr.sat.k8 _ _ _ (MI Ii);rw[vl]at Ej
  have Zl:MV st.own (st.ev y)=some [[.row (σ k2 0).1 (σ k2 0).2 z2 0 n2]]:=by
   rw[hr.ev An (by intro e;cases e)];simp only[KW,MV,C2.get,vl,Ej,FB.k8,E7,List.map_cons,List.map_nil,List.length_cons,List.length_nil];simp
  split at h
  ·rename_i key z' off len e
   cases ho:Nat.beq off 0<;>simp only[ho,cond_true,cond_false]at h;cases hz:Nat.beq z' 1<;>simp only[hz,cond_true,cond_false]at h;cases tj:Nat.beq z 1<;>simp only[tj,cond_true,cond_false]at h;cases vh:Nat.beq key k2<;>simp only[vh,cond_true,cond_false]at h;cases hky:Nat.beq key ky<;>simp only[hky,cond_true,cond_false]at h;cases hk3:Nat.beq k2 ky<;>simp only[hk3,cond_true,cond_false]at h;obtain rfl:=GU.1 ho;obtain rfl:=GU.1 hz;obtain rfl:=GU.1 tj;split at h
   ·rename_i s2 z3 es od
    cases Zm:Nat.beq z2 z3<;>simp only[Zm,cond_true,cond_false]at h;obtain rfl:=GU.1 Zm;split at h
    ·rename_i s' rows hm
     rw[qB]at h;obtain ⟨rfl,rfl,g3,g4,h⟩:=h;obtain ⟨k,h1,h2,h3⟩:=ZU h;have hs:=hr.sat.site _ _ _ hm;have fk:=hr.sat.k8 _ _ _ (MI hm);rw[hs]at fk;refine ⟨.mn (.row s' (st.own.k9 s') 1 0 (rows.length+1)) (st.own.put s' (((st.own s').cr (σ key 0).2 none).new ⟨1,IE σ key 0 rows++[[.row (σ k2 0).1 (σ k2 0).2 z2 0 es.length]]⟩)),_,_,_,λ C => ?_,h3,?_,hr.ADf (ky:=ky) hm od (OB.1 vh) h1 h2⟩
     ·simp only[k6,Zl,hr.ev e (by intro e;cases e),KW,C2.get,hs,fk,FB.k8]
      rw[if_pos (by simp),if_pos ⟨trivial,trivial,by rw[PJ];exact Nat.le_refl _,by simpa using g3,by simpa using g4⟩];rw[zT (by rw[PJ];exact Nat.le_refl _)];rfl
     ·simp only[H5.res,KW,HK]
    ·exact h.elim
   ·exact h.elim
  ·rename_i e
   cases sw:OM s<;>simp only[sw,cond_true,cond_false]at h;cases tj:Nat.beq z 1<;>simp only[tj,cond_true,cond_false]at h;obtain rfl:=GU.1 tj;split at h
   ·rename_i s2 z3 es od
    cases Zm:Nat.beq z2 z3<;>simp only[Zm,cond_true,cond_false]at h;obtain rfl:=GU.1 Zm;rw[qB]at h;obtain ⟨⟨rfl,g3⟩,h⟩:=h;obtain ⟨k,h1,h2,h3⟩:=ZU h;obtain ⟨σ',q1,q2⟩:=hr.AE6 (q:=s) od (λ e=>(uT h1 _ _ _ od).1 e.symm) h1 h2 sw;refine ⟨.mn (.row s (st.own.k9 s) 1 0 1) (st.own.put s ((st.own s).new ⟨1,[[.row (σ k2 0).1 (σ k2 0).2 z2 0 es.length]]⟩)),σ',_,_,λ C => ?_,h3,?_,q2⟩
    ·simp only[k6,Zl,hr.ev e (by intro e;cases e),PN]
     rw[if_pos (by simp),if_pos ⟨by simpa [NR] using g3,by simp⟩];rfl
    ·simp only[H5.res,KW,q1]
   ·exact h.elim
  ·exact h.elim
 ·rename_i ky hap
  obtain ⟨An,sy,Ii⟩:=Aqv hap;have vl:=hr.sat.site _ _ _ Ii;have Ej:=hr.sat.k8 _ _ _ (MI Ii);rw[vl]at Ej
  have Zl:MV st.own (st.ev y)=some [[.nil]]:=by
   rw[hr.ev An (by intro e;cases e)];simp only[KW,MV,C2.get,vl,Ej,FB.k8,List.length_cons,List.length_nil];simp
  split at h
  ·rename_i key z' off len e
   cases ho:Nat.beq off 0<;>simp only[ho,cond_true,cond_false]at h;cases hz:Nat.beq z' 1<;>simp only[hz,cond_true,cond_false]at h;cases tj:Nat.beq z 1<;>simp only[tj,cond_true,cond_false]at h;cases hky:Nat.beq key ky<;>simp only[hky,cond_true,cond_false]at h;obtain rfl:=GU.1 ho;obtain rfl:=GU.1 hz;obtain rfl:=GU.1 tj;split at h
   ·rename_i s' rows hm
    rw[qB]at h;obtain ⟨rfl,g3,g4,h⟩:=h;obtain ⟨k,h1,h2,h3⟩:=ZU h;have hs:=hr.sat.site _ _ _ hm;have fk:=hr.sat.k8 _ _ _ (MI hm);rw[hs]at fk;refine ⟨.mn (.row s' (st.own.k9 s') 1 0 (rows.length+1)) (st.own.put s' (((st.own s').cr (σ key 0).2 none).new ⟨1,IE σ key 0 rows++[[.nil]]⟩)),_,_,_,λ C => ?_,h3,?_,hr.ADg hm h1 h2⟩
    ·simp only[k6,Zl,hr.ev e (by intro e;cases e),KW,C2.get,hs,fk,FB.k8]
     rw[if_pos (by simp),if_pos ⟨trivial,trivial,by rw[PJ];exact Nat.le_refl _,by simpa using g3,by simpa using g4⟩];rw[zT (by rw[PJ];exact Nat.le_refl _)];rfl
    ·simp only[H5.res,KW,HK]
   ·exact h.elim
  ·rename_i e
   cases sw:OM s<;>simp only[sw,cond_true,cond_false]at h;cases tj:Nat.beq z 1<;>simp only[tj,cond_true,cond_false]at h;obtain rfl:=GU.1 tj;obtain ⟨g3,h⟩:=h;obtain ⟨k,h1,h2,h3⟩:=ZU h;have qe:FB.flat (.mx [none]):=by
    intro i x hx;cases i with
    | zero=>simp at hx
    | succ i=>simp at hx
   refine ⟨.mn (.row s (st.own.k9 s) 1 0 1) (st.own.put s ((st.own s).new ⟨1,[[.nil]]⟩)),_,_,_,λ C => ?_,h3,?_,hr.rk h1 h2 (.mx [none]) qe rfl (λ_=>sw)⟩
   ·simp only[k6,Zl,hr.ev e (by intro e;cases e),PN]
    rw[if_pos (by simp),if_pos ⟨by simpa [NR] using g3,by simp⟩];rfl
   ·simp only[H5.res,KW,HK]
  ·exact h.elim
 ·exact Ap1 hr h
end
end Go.c9
