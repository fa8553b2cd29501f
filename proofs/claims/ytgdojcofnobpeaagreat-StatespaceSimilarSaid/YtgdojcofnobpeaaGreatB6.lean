/-
  The walk by computation is sound.
-/
import Derived.Test.YtgdojcofnobpeaaGreatB5
set_option linter.unusedSimpArgs false
set_option linter.unusedVariables false
set_option linter.unnecessarySimpa false
namespace Go.Eng
theorem DI {a b:Nat}:Nat.beq a b=true↔a=b:=⟨Nat.eq_of_beq_eq_true,λ h=>by subst h;simp⟩
theorem IG {a b:Nat}:Nat.beq a b=false↔a≠b:=by
 constructor
 ·exact Nat.ne_of_beq_eq_false
 ·intro h
  cases e:Nat.beq a b
  ·rfl
  ·exact absurd (Nat.eq_of_beq_eq_true e) h
theorem NM (j:Nat) : ∀ tm:Tm,tg tm j=c7 tm j
 | []=>rfl
 | (i,v)::r=>by
  simp only[tg,eF,NM j r];cases e:Nat.beq j i
  ·rw[if_neg (IG.1 e)];rfl
  ·rw[if_pos (DI.1 e)];rfl
theorem J8 : ∀ (l:List AV) (K:List AV->Prop),fL l K=K l
 | [],_=>rfl
 | v::r,K=>by rw[fL,J8 r]
theorem Z2 : ∀ (l:Tm) (K:Tm->Prop),fT l K=K l
 | [],_=>rfl
 | (i,v)::r,K=>by rw[fT,Z2 r]
theorem N8 : ∀ (l:Mem) (K:Mem->Prop),fM l K=K l
 | [],_=>rfl
 | (k,s,c)::r,K=>by rw[fM,N8 r]
theorem AiH (n:Nat) (K:Nat->Prop):fN n K=K n:=by cases n<;>rfl
theorem lI (m i:Nat):bit m i=m.testBit i:=by
 have h:Nat.land (Nat.shiftRight m i) 1=(m >>> i)%2:=Nat.and_one_is_mod (m >>> i);have ht:m.testBit i=decide ((m >>> i)%2=1):=by
  rw[Nat.testBit,Nat.and_comm,Nat.and_one_is_mod];rcases Nat.mod_two_eq_zero_or_one (m >>> i) with e|e<;>simp [e]
 unfold bit;rw[h,ht];rcases Nat.mod_two_eq_zero_or_one (m >>> i) with e|e<;>rw[e]<;>rfl
theorem tY (m i j:Nat):bit (Nat.lor m (Nat.shiftLeft 1 i)) j=(bit m j||decide (j=i)):=by
 rw[lI,lI];show (m ||| (1 <<< i)).testBit j=_;rw[Nat.testBit_or,Nat.testBit_shiftLeft];congr 1;by_cases h:j=i
 ·subst h;simp
 ·by_cases h2:j≥i
  ·obtain ⟨d,rfl⟩ : ∃ d,j=i+d+1:=⟨j-i-1,by omega⟩
   rw[show i+d+1-i=d+1 by omega,Nat.testBit_succ];simp [h]
  ·simp [h2,h]
theorem tU : ∀ (ts:List Nat) (m j:Nat),bit (mask m ts) j=(bit m j||ts.contains j)
 | [],m,j=>by simp [mask]
 | t::ts,m,j=>by
  rw[mask,tU ts,tY,List.contains_cons,Bool.or_assoc];congr 2
theorem lJ (j:Nat):bit 0 j=false:=by rw[lI];simp
theorem eD (j:Nat) : ∀ (tm:Tm) (m:Nat),tg (me m tm) j=bif bit m j then .any else tg tm j
 | [],m=>by cases bit m j<;>rfl
 | (i,v)::r,m=>by
  simp only[me];cases hb:bit m i
  ·simp only[cond_false,tg,eD j r,tY]
   cases hj:Nat.beq j i
   ·have:decide (j=i)=false:=by simpa using IG.1 hj
    simp only[cond_false,this,Bool.or_false]
   ·obtain rfl:=DI.1 hj
    simp only[cond_true,hb,cond_false]
  ·simp only[cond_true,tg,eD j r]
   cases hj:Nat.beq j i
   ·rfl
   ·obtain rfl:=DI.1 hj
    simp only[hb,cond_true]
theorem iC {v:AV} {K:AV->Prop} (h:fV v K):v ≠ .any/\K v:=by
 cases v<;>simp only[fV,J8]at h<;>first|exact h.elim|exact ⟨(by intro e;cases e),h⟩
theorem iB {v:AV} {K:List AV->Prop} (h:fC v K):v ≠ .any /\ ∃ cs,cellsOf v=some cs/\K cs:=by
 cases v<;>simp only[fC,fV,J8]at h<;>first|exact h.elim|exact ⟨(by intro e;cases e),_,rfl,h⟩
theorem U8 (b:Bool) (K:Bool->Prop):fB b K=K b:=by cases b<;>rfl
theorem Oq {k:Nat} {tm:Tm} {M:Mem} (h:used k tm M=false):JT k M=false/\LC k tm=false:=by
 unfold used at h;cases h1:JT k M<;>simp only[h1,cond_true,cond_false]at h
 ·exact ⟨rfl,h⟩
 ·cases h
theorem Kt {tm:Tm} {M:Mem} {K:Nat->Prop} : ∀ {l:List Nat},jF tm M l K -> ∃ k,JT k M=false/\LC k tm=false/\K k
 | [],h=>h.elim
 | k::r,h=>by
  simp only[jF]at h;cases h0:used k tm M<;>simp only[h0,cond_true,cond_false]at h
  ·exact ⟨k,(Oq h0).1,(Oq h0).2,h⟩
  ·exact Kt h
theorem KL {s:Nat} {tm:Tm} {M:Mem} {K:Nat->Prop} (h:I6 s tm M K) : ∃ k,JT k M=false/\LC k tm=false/\K k:=Kt h
section
variable {σ:IJ}
def E6 (σ:IJ) (k:Nat) (f:Nat->Nat × Nat):IJ:=λ j t=>if j=k then f t else σ j t
theorem EO {k j:Nat} (f:Nat->Nat × Nat) (h:j≠k):E6 σ k f j=σ j:=by funext t;simp [E6,h]
theorem DN (k:Nat) (f:Nat->Nat × Nat):E6 σ k f k=f:=by funext t;simp [E6]
theorem rF {k:Nat} {p:Nat->Nat × Nat} {v:AV} (h:SV k v=false):CZ (E6 σ k p) v=CZ σ v:=by
 cases v with
 | row j t z o n=>simp only[SV]at h;simp only[CZ,EO p (IG.1 h)]
 | ptr j t a b=>simp only[SV]at h;simp only[CZ,EO p (IG.1 h)]
 | _=>rfl
theorem aN {k:Nat} {p:Nat->Nat × Nat} : ∀ {cs:List AV},LW k cs=false->cs.map (CZ (E6 σ k p))=cs.map (CZ σ)
 | [],_=>rfl
 | c::r,h=>by
  simp only[LW]at h;cases h1:SV k c<;>simp only[h1,cond_true,cond_false]at h
  ·rw[List.map_cons,List.map_cons,rF h1,aN h]
  ·cases h
theorem rD {k:Nat} {p:Nat->Nat × Nat} : ∀ {es:List (List AV)},WP k es=false->(es.map λ cs=>cs.map (CZ (E6 σ k p)))=es.map λ cs=>cs.map (CZ σ)
 | [],_=>rfl
 | c::r,h=>by
  simp only[WP]at h;cases h1:LW k c<;>simp only[h1,cond_true,cond_false]at h
  ·rw[List.map_cons,List.map_cons,aN h1,rD h]
  ·cases h
theorem eA {k:Nat} {p:Nat->Nat × Nat} {v:AV} (h:VO k v=false):DQ (E6 σ k p) v=DQ σ v:=by
 cases v with
 | agg cs=>simp only[VO]at h;simp only[DQ,aN h]
 | fn p f g cs=>simp only[VO]at h;simp only[DQ,aN h]
 | row a b c d e=>exact rF (v := .row a b c d e) h
 | ptr a b c d=>exact rF (v := .ptr a b c d) h
 | _=>rfl
theorem Mv {k:Nat} {p:Nat->Nat × Nat} : ∀ {cs:List AV},aH k cs=false->cs.map (DQ (E6 σ k p))=cs.map (DQ σ)
 | [],_=>rfl
 | c::r,h=>by
  simp only[aH]at h;cases h1:VO k c<;>simp only[h1,cond_true,cond_false]at h
  ·rw[List.map_cons,List.map_cons,eA h1,Mv h]
  ·cases h
theorem kC {k:Nat} {p:Nat->Nat × Nat} {v:AV} (h:SW k v=false):DB (E6 σ k p) v=DB σ v:=by
 cases v with
 | tup cs=>simp only[SW]at h;simp only[DB,Mv h]
 | agg cs=>exact eA (v := .agg cs) h
 | fn p f g cs=>exact eA (v := .fn p f g cs) h
 | row a b c d e=>exact eA (v := .row a b c d e) h
 | ptr a b c d=>exact eA (v := .ptr a b c d) h
 | _=>rfl
theorem aI {k:Nat} : ∀ {tm:Tm},LC k tm=false -> ∀ j,SW k (tg tm j)=false
 | [],_,_=>rfl
 | (i,v)::r,h,j=>by
  simp only[LC]at h;cases h1:SW k v<;>simp only[h1,cond_true,cond_false]at h
  ·simp only[tg]
   cases Nat.beq j i
   ·exact aI h j
   ·exact h1
  ·cases h
theorem YP {k:Nat} : ∀ {M:Mem},JT k M=false -> ∀ j s c,b9 M j=some (s,c)->j≠k/\LB k c=false
 | [],_,_,_,_,e=>by cases e
 | (i,s0,c0)::r,h,j,s,c,e=>by
  simp only[JT]at h;cases h0:Nat.beq k i<;>simp only[h0,cond_true,cond_false]at h
  ·cases h1:LB k c0<;>simp only[h1,cond_true,cond_false]at h
   ·simp only[b9]at e
    cases h2:Nat.beq j i<;>simp only[h2,cond_true,cond_false]at e
    ·exact YP h j s c e
    ·simp only[Option.some.injEq,Prod.mk.injEq]at e
     obtain ⟨_,rfl⟩:=e;exact ⟨λ e=>IG.1 h0 (e.symm.trans (DI.1 h2)),h1⟩
   ·cases h
  ·cases h
theorem WJ {σ σ':IJ} {k:Nat} : ∀ (rows:List (Option (Nat × List (List AV)))) (i:Nat),(∀ j,i<=j->σ k (j+1)=σ' k (j+1))->DZ σ k i rows=DZ σ' k i rows
 | [],i,h=>rfl
 | none::r,i,h=>by rw[DZ,DZ,WJ r (i+1) λ j hj=>h j (by omega)]
 | some (z,es)::r,i,h=>by rw[DZ,DZ,WJ r (i+1) λ j hj=>h j (by omega),h i (by omega)]
theorem H2 {k:Nat} : ∀ (rows:List (Option (Nat × List (List AV)))) (i j:Nat),(DZ σ k i rows)[j]? = (rows[j]?).map λ r=>match r with|none=>[.nil]|some (z,es)=>[.row (σ k (i+j+1)).1 (σ k (i+j+1)).2 z 0 es.length]
 | [],i,j=>by simp [DZ]
 | none::r,i,0=>by simp [DZ]
 | none::r,i,j+1=>by simp only[DZ,List.getElem?_cons_succ,H2 r (i+1) j];rw[show i+1+j=i+(j+1) by omega]
 | some (z,es)::r,i,0=>by simp [DZ]
 | some (z,es)::r,i,j+1=>by simp only[DZ,List.getElem?_cons_succ,H2 r (i+1) j];rw[show i+1+j=i+(j+1) by omega]
theorem H3 {k:Nat} : ∀ (rows:List (Option (Nat × List (List AV)))) (i:Nat),(DZ σ k i rows).length=rows.length
 | [],i=>rfl
 | none::r,i=>by simp [DZ,H3 r]
 | some (z,es)::r,i=>by simp [DZ,H3 r]
theorem fW {k j:Nat} {f:Nat->Nat × Nat} {c:CS} (h:LB k c=false) (hj:j≠k):c.blk (E6 σ k f) j=c.blk σ j:=by
 cases c with
 | bx cs=>simp only[LB]at h;simp only[CS.blk,aN h]
 | rw z es=>rfl
 | bs z es=>simp only[LB]at h;simp only[CS.blk,rD h]
 | mx rows=>simp only[CS.blk];rw[WJ rows 0 λ i _=>by rw[EO f hj]]
 | hx a v rows=>simp only[CS.blk];rw[WJ rows 0 λ i _=>by rw[EO f hj]]
 | vw w rows=>simp only[CS.blk];rw[WJ rows 0 λ i _=>by rw[EO f hj]]
theorem Vw {v:AV} (h:ka v=true):CZ σ v=v:=by cases v<;>first|rfl|cases h
theorem MC : ∀ {cs:List AV},G1 cs=true->cs.map (CZ σ)=cs
 | [],_=>rfl
 | c::r,h=>by
  simp only[G1]at h;cases h1:ka c<;>simp only[h1,cond_true,cond_false]at h
  ·cases h
  ·rw[List.map_cons,Vw h1,MC h]
theorem Vv {k:Nat} {v:AV} (h:ka v=true):SV k v=false:=by cases v<;>first|rfl|cases h
theorem mC {k:Nat} : ∀ {cs:List AV},G1 cs=true->LW k cs=false
 | [],_=>rfl
 | c::r,h=>by
  simp only[G1]at h;cases h1:ka c<;>simp only[h1,cond_true,cond_false]at h
  ·cases h
  ·simp only[LW,Vv h1,mC h,cond_false]
theorem Xb (v:AV):cv v = .any\/(cv v=v/\DB σ v=v):=by
 cases v with
 | agg cs =>
  simp only[cv];cases h:G1 cs
  ·exact Or.inl rfl
  ·exact Or.inr ⟨rfl,by simp only[DB,DQ,MC h]⟩
 | tup vs=>cases vs with
  | nil=>exact Or.inr ⟨rfl,rfl⟩
  | cons=>exact Or.inl rfl
 | fn p f g cs=>cases cs with
  | nil=>exact Or.inr ⟨rfl,rfl⟩
  | cons=>exact Or.inl rfl
 | _=>first|exact Or.inl rfl|exact Or.inr ⟨rfl,rfl⟩
theorem Wy {k:Nat} (v:AV):SW k (cv v)=false:=by
 cases v with
 | agg cs =>
  simp only[cv];cases h:G1 cs
  ·rfl
  ·exact mC h
 | tup vs=>cases vs<;>rfl
 | fn p f g cs=>cases cs<;>rfl
 | _=>rfl
variable {tm:Tm} {M:Mem} {st:St}
theorem RX.ev (h:RX σ tm M st) {x:B8} {v:AV} (e:ex tm x=v) (hv:v ≠ .any):st.ev x=DB σ v:=by
 cases x with
 | t n =>
  simp only[ex]at e;rcases h.tm n with h|h
  ·exact absurd (e.symm.trans h) hv
  ·rw[e]at h;exact h
 | c u =>
  simp only[ex]at e;rcases Xb (σ:=σ) u with h|⟨h,h'⟩
  ·exact absurd (e.symm.trans h) hv
  ·rw[<-e,h,h'];rfl
theorem zA {k:Nat} (h:LC k tm=false) (x:B8):SW k (ex tm x)=false:=by
 cases x with
 | t n=>exact aI h n
 | c u=>exact Wy u
theorem Kp {k:Nat} {v:AV} {cs:List AV} (h:SW k v=false) (e:cellsOf v=some cs):LW k cs=false:=by
 cases v<;>simp only[cellsOf,Option.some.injEq,reduceCtorEq]at e<;>subst e<;>first|exact h|rfl|(simp only[SW,VO]at h;simp only[LW,h,cond_false])
theorem TW {v:AV} {cs:List AV} (e:cellsOf v=some cs):cellsOf (DB σ v)=some (cs.map (CZ σ)):=by
 cases v<;>simp only[cellsOf,Option.some.injEq,reduceCtorEq]at e<;>subst e<;>rfl
def CS.flat:CS->Prop
 | .mx rows => ∀ (i:Nat) (x:Nat × List (List AV)),rows[i]? = some (some x)->False
 | .hx _ _ _=>False
 | .vw _ _=>False
 | _=>True
theorem GN {M:Mem} {k s:Nat} {c:CS} (h:b9 M k=some (s,c)):a8 M k 0=some c:=by simp [a8,h]
theorem KW {M:Mem} {k t:Nat} {c:CS} (h:a8 M k t=some c) : ∃ s c0,b9 M k=some (s,c0)/\(t=0->c=c0)/\(∀ i,t=i+1 -> ∃ rows z es,((c0 = .mx rows \/ ∃ a v,c0 = .hx a v rows) \/ ∃ w,c0 = .vw w rows)/\rows[i]? = some (some (z,es))/\c = .rw z es):=by
 unfold a8 at h;cases hm:b9 M k with
 | none=>simp [hm]at h
 | some x =>
  obtain ⟨s,c0⟩:=x;simp only[hm]at h;refine ⟨s,c0,rfl,?_,?_⟩
  ·rintro rfl;exact (Option.some.inj h).symm
  ·rintro i rfl
   cases c0 with
   | mx rows =>
    simp only at h;cases hr:rows[i]? with
    | none=>simp [hr]at h
    | some r =>
     cases r with
     | none=>simp [hr]at h
     | some ze=>obtain ⟨z,es⟩:=ze;simp only[hr,Option.some.injEq]at h;exact ⟨rows,z,es,Or.inl (Or.inl rfl),hr,h.symm⟩
   | hx a v rows =>
    simp only at h;cases hr:rows[i]? with
    | none=>simp [hr]at h
    | some r =>
     cases r with
     | none=>simp [hr]at h
     | some ze=>obtain ⟨z,es⟩:=ze;simp only[hr,Option.some.injEq]at h;exact ⟨rows,z,es,Or.inl (Or.inr ⟨a,v,rfl⟩),hr,h.symm⟩
   | vw w rows =>
    simp only at h;cases hr:rows[i]? with
    | none=>simp [hr]at h
    | some r =>
     cases r with
     | none=>simp [hr]at h
     | some ze=>obtain ⟨z,es⟩:=ze;simp only[hr,Option.some.injEq]at h;exact ⟨rows,z,es,Or.inr ⟨w,rfl⟩,hr,h.symm⟩
   | _=>simp at h
theorem OG {M:Mem} {k s:Nat} {c:CS} {j t:Nat} (h:j≠k):a8 ((k,s,c)::M) j t=a8 M j t:=by
 simp only[a8,b9,IG.2 h,cond_false]
theorem WI {M:Mem} {k s:Nat} {c:CS}:a8 ((k,s,c)::M) k 0=some c:=by simp [a8,b9]
theorem Z8 {M:Mem} {k s:Nat} {c:CS} (hc:c.flat) {t:Nat} {c':CS} (h:a8 ((k,s,c)::M) k t=some c'):t=0/\c'=c:=by
 cases t with
 | zero=>rw[WI]at h;exact ⟨rfl,(Option.some.inj h).symm⟩
 | succ i =>
  simp only[a8,b9,Nat.beq_refl,cond_true]at h;cases c with
  | mx rows =>
   simp only at h;split at h
   ·rename_i z es hr
    exact (hc i (z,es) hr).elim
   ·cases h
  | hx a v rows=>exact hc.elim
  | vw w rows=>exact hc.elim
  | _=>simp at h
theorem Aks {σ σ':IJ} {k k':Nat} {rows:List (Option (Nat × List (List AV)))} (h:CS.flat (.mx rows)):DZ σ k 0 rows=DZ σ' k' 0 rows:=by
 apply List.ext_getElem?;intro j;rw[H2,H2];cases hr:rows[j]? with
 | none=>rfl
 | some r=>cases r with
  | none=>rfl
  | some x=>exact (h j x hr).elim
theorem RX.ax (h:RX σ tm M st) {s q:Nat} (hm:JT s M=false) (ht:LC s tm=false) (c:CS) (hf:c.flat) (hc:LB s c=false) (hl:c.fy=true->HM q=true) :
  RX (E6 σ s λ_=>(q,st.own.c8 q)) tm ((s,q,c)::M) ⟨st.tm,st.own.put q ((st.own q).new (c.blk σ s))⟩:=by
 have Gr : ∀ j t c',a8 M j t=some c'->((st.own.put q ((st.own q).new (c.blk σ s))) (σ j t).1).blk (σ j t).2=(st.own (σ j t).1).blk (σ j t).2:=by
  intro j t c' e;by_cases hs:(σ j t).1=q
  ·have ho:=h.sat.old _ _ _ e
   rw[hs]at ho ⊢;simp only[BT.d6,D9.new];rw[if_neg (by omega)]
  ·rw[BT.bm _ _ _ _ hs]
 have qo : ∀ s',(st.own s').c8<=((st.own.put q ((st.own q).new (c.blk σ s))) s').c8:=by
  intro s';by_cases hs:s'=q
  ·subst hs;simp only[BT.d6,D9.new];omega
  ·rw[BT.bm _ _ _ _ hs];exact Nat.le_refl _
 have hne : ∀ j t c',j≠s->a8 ((s,q,c)::M) j t=some c'->a8 M j t=some c':=λ j t c' hj e=>by rwa [OG hj]at e
 have rh : ∀ j t c',a8 M j t=some c'->LB s c'=false/\j≠s:=by
  intro j t c' e;obtain ⟨s1,c0,g1,g2,g3⟩:=KW e;obtain ⟨g4,g5⟩:=YP hm _ _ _ g1;refine ⟨?_,g4⟩;cases t with
  | zero=>rw[g2 rfl];exact g5
  | succ i=>obtain ⟨rows,z,es,_,_,rfl⟩:=g3 i rfl;rfl
 refine ⟨λ j => ?_,⟨?_,?_,?_,?_,?_⟩⟩
 ·rw[kC (aI ht j)];exact h.tm j
 ·intro j s' c' e
  simp only[b9]at e;cases hb:Nat.beq j s<;>simp only[hb,cond_true,cond_false]at e
  ·rw[EO _ (IG.1 hb)];exact h.sat.site _ _ _ e
  ·simp only[Option.some.injEq,Prod.mk.injEq]at e
   obtain ⟨rfl,rfl⟩:=e;rw[DI.1 hb,DN]
 ·intro j t c' e
  by_cases hj:j=s
  ·subst hj
   obtain ⟨rfl,rfl⟩:=Z8 hf e;have hb:c'.blk (E6 σ j λ_=>(q,st.own.c8 q)) j=c'.blk σ j:=by
    cases c' with
    | bx cs=>simp only[LB]at hc;simp only[CS.blk,aN hc]
    | rw z es=>rfl
    | bs z es=>simp only[LB]at hc;simp only[CS.blk,rD hc]
    | mx rows=>exact congrArg (GJ.mk 1) (Aks hf)
    | hx a v rows=>exact hf.elim
    | vw w rows=>exact hf.elim
   rw[DN,hb];simp [BT.d6,D9.new,BT.c8]
  ·have e':=hne j t c' hj e
   rw[EO _ hj,fW (rh j t c' e').1 hj];exact (Gr j t c' e').trans (h.sat.blk _ _ _ e')
 ·intro j t c' e
  by_cases hj:j=s
  ·subst hj
   rw[DN];simp [BT.d6,D9.new,BT.c8]
  ·have e':=hne j t c' hj e
   rw[EO _ hj];exact Nat.lt_of_lt_of_le (h.sat.old _ _ _ e') (qo _)
 ·have fi : ∀ j t c',a8 M j t=some c'->σ j t=(q,st.own.c8 q)->False:=by
   intro j t c' e hh;have h2:=h.sat.old _ _ _ e;rw[hh]at h2;exact absurd h2 (Nat.lt_irrefl _)
  intro j t j' t' c1 c2 e1 e2 hj;by_cases h1:j=s<;>by_cases h2:j'=s
  ·subst h1;subst h2
   exact ⟨rfl,(Z8 hf e1).1.trans (Z8 hf e2).1.symm⟩
  ·subst h1
   rw[DN,EO _ h2]at hj;exact (fi _ _ _ (hne _ _ _ h2 e2) hj.symm).elim
  ·subst h2
   rw[DN,EO _ h1]at hj;exact (fi _ _ _ (hne _ _ _ h1 e1) hj).elim
  ·rw[EO _ h1,EO _ h2]at hj
   exact h.sat.inj _ _ _ _ _ _ (hne _ _ _ h1 e1) (hne _ _ _ h2 e2) hj
 ·intro j t c' e hw
  by_cases hj:j=s
  ·subst hj
   obtain ⟨rfl,rfl⟩:=Z8 hf e;rw[DN];exact hl hw
  ·rw[EO _ hj];exact h.sat.low _ _ _ (hne j t c' hj e) hw
theorem OC {k j:Nat} {x:Nat × CS} : ∀ {M:Mem},b9 (i9 k M) j=some x->j≠k/\b9 M j=some x
 | [],e=>by cases e
 | (i,s,c)::r,e=>by
  simp only[i9]at e;cases hb:Nat.beq k i<;>simp only[hb,cond_true,cond_false]at e
  ·simp only[b9]at e ⊢
   cases hj:Nat.beq j i<;>simp only[hj,cond_true,cond_false]at e ⊢
   ·exact OC e
   ·exact ⟨λ e'=>IG.1 hb (e'.symm.trans (DI.1 hj)),e⟩
  ·obtain ⟨h1,h2⟩:=OC e
   refine ⟨h1,?_⟩;simp only[b9];rw[IG.2 (λ e'=>h1 (e'.trans (DI.1 hb).symm))];exact h2
theorem YK {own:BT} {p:Nat × Nat} {x:Option GJ} {q:Nat × Nat} (h:q≠p):((own.put p.1 ((own p.1).l8 p.2 x)) q.1).blk q.2=(own q.1).blk q.2:=by
 by_cases hs:q.1=p.1
 ·rw[hs,BT.d6]
  simp only[D9.l8];rw[if_neg (λ e=>h (Prod.ext hs e))]
 ·rw[BT.bm _ _ _ _ hs]
theorem jG {own:BT} {p:Nat × Nat} {x:Option GJ}:((own.put p.1 ((own p.1).l8 p.2 x)) p.1).blk p.2=x:=by simp [BT.d6,D9.l8]
theorem dP {own:BT} {p:Nat × Nat} {x:Option GJ} (s:Nat):((own.put p.1 ((own p.1).l8 p.2 x)) s).c8=(own s).c8:=by
 by_cases hs:s=p.1
 ·subst hs;rw[BT.d6];rfl
 ·rw[BT.bm _ _ _ _ hs]
theorem RX.Ax (h:RX σ tm M st) {k s:Nat} {c:CS} (e:b9 M k=some (s,c)) (hf:c.flat) (c':CS) (fo:c'.flat) (hir:c'.fy=true->c.fy=true) :
  RX σ tm ((k,s,c')::M) ⟨st.tm,st.own.put s ((st.own s).l8 (σ k 0).2 (some (c'.blk σ k)))⟩:=by
 have hs:=h.sat.site _ _ _ e;subst hs;have e0:=GN e;have hg : ∀ j t c1,a8 ((k,(σ k 0).1,c')::M) j t=some c1->(j=k/\t=0/\c1=c')\/(j≠k/\a8 M j t=some c1):=by
  intro j t c1 e1;by_cases hj:j=k
  ·subst hj
   obtain ⟨rfl,rfl⟩:=Z8 fo e1;exact Or.inl ⟨rfl,rfl,rfl⟩
  ·rw[OG hj]at e1
   exact Or.inr ⟨hj,e1⟩
 have jc : ∀ j t c1,a8 ((k,(σ k 0).1,c')::M) j t=some c1 -> ∃ c2,a8 M j t=some c2:=by
  intro j t c1 e1;rcases hg j t c1 e1 with ⟨rfl,rfl,rfl⟩|⟨_,h2⟩
  ·exact ⟨c,e0⟩
  ·exact ⟨c1,h2⟩
 refine ⟨h.tm,⟨?_,?_,?_,?_,?_⟩⟩
 ·intro j s' c1 e1
  simp only[b9]at e1;cases hb:Nat.beq j k<;>simp only[hb,cond_true,cond_false]at e1
  ·exact h.sat.site _ _ _ e1
  ·simp only[Option.some.injEq,Prod.mk.injEq]at e1
   rw[DI.1 hb];exact e1.1
 ·intro j t c1 e1
  rcases hg j t c1 e1 with ⟨rfl,rfl,rfl⟩|⟨h1,h2⟩
  ·exact jG
  ·refine (YK (λ he => ?_)).trans (h.sat.blk _ _ _ h2)
   exact h1 (h.sat.inj _ _ _ _ _ _ h2 e0 he).1
 ·intro j t c1 e1
  obtain ⟨c2,e2⟩:=jc _ _ _ e1;show (σ j t).2<((st.own.put (σ k 0).1 ((st.own (σ k 0).1).l8 (σ k 0).2 (some (c'.blk σ k)))) (σ j t).1).c8;rw[dP];exact h.sat.old _ _ _ e2
 ·intro j t j' t' c1 c2 e1 e2 hj
  obtain ⟨_,e1'⟩:=jc _ _ _ e1;obtain ⟨_,e2'⟩:=jc _ _ _ e2;exact h.sat.inj _ _ _ _ _ _ e1' e2' hj
 ·intro j t c1 e1 hw
  rcases hg j t c1 e1 with ⟨rfl,rfl,rfl⟩|⟨_,h2⟩
  ·exact h.sat.low _ _ _ e0 (hir hw)
  ·exact h.sat.low _ _ _ h2 hw
theorem iR {k t:Nat} {c:CS} (h:a8 M k (t+1)=some c):c.fy=true:=by
 obtain ⟨_,_,_,_,g3⟩:=KW h;obtain ⟨_,_,_,_,_,rfl⟩:=g3 t rfl;rfl
theorem JC {k j t:Nat} {c:CS} (h:a8 (i9 k M) j t=some c):j≠k/\a8 M j t=some c:=by
 obtain ⟨s,c0,g1,_⟩:=KW h;obtain ⟨h1,h2⟩:=OC g1;refine ⟨h1,?_⟩;unfold a8 at h ⊢;rw[g1]at h;rw[h2];exact h
theorem RX.kill (h:RX σ tm M st) {k s:Nat} {c:CS} (e:b9 M k=some (s,c)) :
  RX σ tm (i9 k M) ⟨st.tm,st.own.put s ((st.own s).l8 (σ k 0).2 none)⟩:=by
 have hs:=h.sat.site _ _ _ e;subst hs;have e0:=GN e;refine ⟨h.tm,⟨?_,?_,?_,?_,?_⟩⟩
 ·intro j s' c1 e1
  exact h.sat.site _ _ _ (OC e1).2
 ·intro j t c1 e1
  obtain ⟨hj,e1⟩:=JC e1;refine (YK (λ he => ?_)).trans (h.sat.blk _ _ _ e1);exact hj (h.sat.inj _ _ _ _ _ _ e1 e0 he).1
 ·intro j t c1 e1
  obtain ⟨hj,e1⟩:=JC e1;show (σ j t).2<((st.own.put (σ k 0).1 ((st.own (σ k 0).1).l8 (σ k 0).2 none)) (σ j t).1).c8;rw[dP];exact h.sat.old _ _ _ e1
 ·intro j t j' t' c1 c2 e1 e2 hj
  exact h.sat.inj _ _ _ _ _ _ (JC e1).2 (JC e2).2 hj
 ·intro j t c1 e1 hw
  exact h.sat.low _ _ _ (JC e1).2 hw
theorem RX.less (h:RX σ tm M st) (k:Nat):RX σ tm (i9 k M) st :=
 ⟨h.tm,⟨λ_ _ _ e=>h.sat.site _ _ _ (OC e).2,λ_ _ _ e=>h.sat.blk _ _ _ (JC e).2,λ_ _ _ e=>h.sat.old _ _ _ (JC e).2,λ_ _ _ _ _ _ e1 e2=>h.sat.inj _ _ _ _ _ _ (JC e1).2 (JC e2).2,λ_ _ _ e hw=>h.sat.low _ _ _ (JC e).2 hw⟩⟩
theorem RX.Hv (h:RX σ tm M st) {k s i z:Nat} {rows:List (Option (Nat × List (List AV)))} {es es':List (List AV)} (e:b9 M k=some (s,.mx rows)) (hr:rows[i]? = some (some (z,es))) (hl:es'.length=es.length) :
  RX σ tm ((k,s,.mx (rows.set i (some (z,es'))))::M) ⟨st.tm,st.own.put (σ k (i+1)).1 ((st.own (σ k (i+1)).1).l8 (σ k (i+1)).2 (some ⟨z,es'⟩))⟩:=by
 have e1:a8 M k (i+1)=some (.rw z es):=by simp [a8,e,hr]
 have hi:i<rows.length:=(zS hr).1;have dk:DZ σ k 0 (rows.set i (some (z,es')))=DZ σ k 0 rows:=by
  apply List.ext_getElem?;intro j;rw[H2,H2];by_cases hj:i=j
  ·subst hj;rw[List.getElem?_set_self hi,hr];simp [hl]
  ·rw[List.getElem?_set_ne hj]
 have hg : ∀ j t c1,a8 ((k,s,.mx (rows.set i (some (z,es'))))::M) j t=some c1->(j=k/\t=i+1/\c1 = .rw z es')\/(¬ (j=k/\t=i+1) /\ ∃ c2,a8 M j t=some c2/\c2.blk σ j=c1.blk σ j):=by
  intro j t c1 g;by_cases hj:j=k
  ·subst hj
   cases t with
   | zero =>
    rw[WI]at g;obtain rfl:=Option.some.inj g;exact Or.inr ⟨by omega,_,GN e,by simp only[CS.blk,dk]⟩
   | succ t =>
    simp only[a8,b9,Nat.beq_refl,cond_true]at g;by_cases hti:i=t
    ·subst hti
     rw[List.getElem?_set_self hi]at g;exact Or.inl ⟨rfl,rfl,(Option.some.inj g).symm⟩
    ·rw[List.getElem?_set_ne hti]at g
     refine Or.inr ⟨by omega,c1,?_,rfl⟩;simp only[a8,e];exact g
  ·rw[OG hj]at g
   exact Or.inr ⟨by omega,c1,g,rfl⟩
 have jc : ∀ j t c1,a8 ((k,s,.mx (rows.set i (some (z,es'))))::M) j t=some c1 -> ∃ c2,a8 M j t=some c2:=by
  intro j t c1 g;rcases hg j t c1 g with ⟨rfl,rfl,rfl⟩|⟨_,c2,h2,_⟩
  ·exact ⟨_,e1⟩
  ·exact ⟨c2,h2⟩
 refine ⟨h.tm,⟨?_,?_,?_,?_,?_⟩⟩
 ·intro j s' c1 g
  simp only[b9]at g;cases hb:Nat.beq j k<;>simp only[hb,cond_true,cond_false]at g
  ·exact h.sat.site _ _ _ g
  ·simp only[Option.some.injEq,Prod.mk.injEq]at g
   rw[DI.1 hb,<-g.1];exact h.sat.site _ _ _ e
 ·intro j t c1 g
  rcases hg j t c1 g with ⟨rfl,rfl,rfl⟩|⟨h1,c2,h2,h3⟩
  ·exact jG
  ·rw[<-h3]
   refine (YK (λ he => ?_)).trans (h.sat.blk _ _ _ h2);exact h1 (h.sat.inj _ _ _ _ _ _ h2 e1 he)
 ·intro j t c1 g
  obtain ⟨c2,e2⟩:=jc _ _ _ g;show (σ j t).2<((st.own.put (σ k (i+1)).1 ((st.own (σ k (i+1)).1).l8 (σ k (i+1)).2 (some ⟨z,es'⟩))) (σ j t).1).c8;rw[dP];exact h.sat.old _ _ _ e2
 ·intro j t j' t' c1 c2 g1 g2 hj
  obtain ⟨_,e1'⟩:=jc _ _ _ g1;obtain ⟨_,e2'⟩:=jc _ _ _ g2;exact h.sat.inj _ _ _ _ _ _ e1' e2' hj
 ·intro j t c1 g hw
  obtain ⟨c2,e2⟩:=jc _ _ _ g;cases t with
  | zero =>
   by_cases hj:j=k
   ·subst hj;exact h.sat.low _ _ _ (GN e) rfl
   ·rw[OG hj]at g;exact h.sat.low _ _ _ g hw
  | succ t=>exact h.sat.low _ _ _ e2 (iR e2)
section
variable {k:Nat} {f:Nat->Nat × Nat}
theorem rE {v:AV} (hf:f 0=σ k 0) (h:UY k v=false):CZ (E6 σ k f) v=CZ σ v:=by
 cases v with
 | row j t z o n =>
  simp only[UY]at h;cases hb:Nat.beq j k
  ·simp only[CZ,EO f (IG.1 hb)]
  ·obtain rfl:=DI.1 hb
   simp only[hb,cond_true]at h;cases t with
   | zero=>simp only[CZ,DN,hf]
   | succ t=>cases h
 | ptr j t a b =>
  simp only[UY]at h;cases hb:Nat.beq j k
  ·simp only[CZ,EO f (IG.1 hb)]
  ·obtain rfl:=DI.1 hb
   simp only[hb,cond_true]at h;cases t with
   | zero=>simp only[CZ,DN,hf]
   | succ t=>cases h
 | _=>rfl
theorem dY (hf:f 0=σ k 0) : ∀ {cs:List AV},T3 k cs=false->cs.map (CZ (E6 σ k f))=cs.map (CZ σ)
 | [],_=>rfl
 | c::r,h=>by
  simp only[T3]at h;cases h1:UY k c<;>simp only[h1,cond_true,cond_false]at h
  ·rw[List.map_cons,List.map_cons,rE hf h1,dY hf h]
  ·cases h
theorem Mt (hf:f 0=σ k 0) : ∀ {es:List (List AV)},ZN k es=false->(es.map λ cs=>cs.map (CZ (E6 σ k f)))=es.map λ cs=>cs.map (CZ σ)
 | [],_=>rfl
 | c::r,h=>by
  simp only[ZN]at h;cases h1:T3 k c<;>simp only[h1,cond_true,cond_false]at h
  ·rw[List.map_cons,List.map_cons,dY hf h1,Mt hf h]
  ·cases h
theorem dZ {v:AV} (hf:f 0=σ k 0) (h:XL k v=false):DQ (E6 σ k f) v=DQ σ v:=by
 cases v with
 | agg cs=>simp only[XL]at h;simp only[DQ,dY hf h]
 | fn p f g cs=>simp only[XL]at h;simp only[DQ,dY hf h]
 | row a b c d e=>exact rE (v := .row a b c d e) hf h
 | ptr a b c d=>exact rE (v := .ptr a b c d) hf h
 | _=>rfl
theorem Mu (hf:f 0=σ k 0) : ∀ {cs:List AV},ZM k cs=false->cs.map (DQ (E6 σ k f))=cs.map (DQ σ)
 | [],_=>rfl
 | c::r,h=>by
  simp only[ZM]at h;cases h1:XL k c<;>simp only[h1,cond_true,cond_false]at h
  ·rw[List.map_cons,List.map_cons,dZ hf h1,Mu hf h]
  ·cases h
theorem Mw {v:AV} (hf:f 0=σ k 0) (h:V5 k v=false):DB (E6 σ k f) v=DB σ v:=by
 cases v with
 | tup cs=>simp only[V5]at h;simp only[DB,Mu hf h]
 | agg cs=>exact dZ (v := .agg cs) hf h
 | fn p f g cs=>exact dZ (v := .fn p f g cs) hf h
 | row a b c d e=>exact dZ (v := .row a b c d e) hf h
 | ptr a b c d=>exact dZ (v := .ptr a b c d) hf h
 | _=>rfl
theorem lO : ∀ {tm:Tm},MY k tm=false -> ∀ j,V5 k (tg tm j)=false
 | [],_,_=>rfl
 | (i,v)::r,h,j=>by
  simp only[MY]at h;cases h1:V5 k v<;>simp only[h1,cond_true,cond_false]at h
  ·simp only[tg]
   cases Nat.beq j i
   ·exact lO h j
   ·exact h1
  ·cases h
theorem lN : ∀ {M:Mem},LK k M=false -> ∀ j s c,b9 M j=some (s,c)->TZ k c=false
 | [],_,_,_,_,e=>by cases e
 | (i,s0,c0)::r,h,j,s,c,e=>by
  simp only[LK]at h;cases h1:TZ k c0<;>simp only[h1,cond_true,cond_false]at h
  ·simp only[b9]at e
   cases h2:Nat.beq j i<;>simp only[h2,cond_true,cond_false]at e
   ·exact lN h j s c e
   ·simp only[Option.some.injEq,Prod.mk.injEq]at e
    obtain ⟨_,rfl⟩:=e;exact h1
  ·cases h
theorem uA {c:CS} {j:Nat} (hf:f 0=σ k 0) (h:TZ k c=false) (hj:j≠k):c.blk (E6 σ k f) j=c.blk σ j:=by
 cases c with
 | bx cs=>simp only[TZ]at h;simp only[CS.blk,dY hf h]
 | rw z es=>rfl
 | bs z es=>simp only[TZ]at h;simp only[CS.blk,Mt hf h]
 | mx rows=>simp only[CS.blk];rw[WJ rows 0 λ i _=>by rw[EO f hj]]
 | hx a v rows=>simp only[CS.blk];rw[WJ rows 0 λ i _=>by rw[EO f hj]]
 | vw w rows=>simp only[CS.blk];rw[WJ rows 0 λ i _=>by rw[EO f hj]]
end
theorem RX.ry (h:RX σ tm M st) {k k2 s s2 i z:Nat} {rows:List (Option (Nat × List (List AV)))} {es:List (List AV)} {c0:CS} (e:b9 M k=some (s,c0)) (hc0:c0 = .mx rows \/ ∃ v,c0 = .hx i v rows) (e2:b9 M k2=some (s2,.rw z es)) (hk:k≠k2) (u5:MY k tm=false) (hcm:LK k M=false) (hi:i<rows.length) :
  RX (E6 σ k λ t=>if t=i+1 then σ k2 0 else σ k t) tm ((k,s,.mx (rows.set i (some (z,es))))::i9 k2 M) ⟨st.tm,st.own.put s ((st.own s).l8 (σ k 0).2 (some ⟨1,(DZ σ k 0 rows).set i [.row (σ k2 0).1 (σ k2 0).2 z 0 es.length]⟩))⟩:=by
 have hs:=h.sat.site _ _ _ e;subst hs;have r0:=GN e;have r2:=GN e2;have f0:(λ t=>if t=i+1 then σ k2 0 else σ k t) 0=σ k 0:=by simp
 have dk:DZ (E6 σ k λ t=>if t=i+1 then σ k2 0 else σ k t) k 0 (rows.set i (some (z,es)))=(DZ σ k 0 rows).set i [.row (σ k2 0).1 (σ k2 0).2 z 0 es.length]:=by
  apply List.ext_getElem?;intro j;rw[H2,DN];by_cases hj:i=j
  ·subst hj
   rw[List.getElem?_set_self hi,List.getElem?_set_self (by rw[H3];exact hi)];simp
  ·rw[List.getElem?_set_ne hj,List.getElem?_set_ne hj,H2]
   congr 1;funext r;cases r with
   | none=>rfl
   | some x=>simp only[Nat.zero_add];rw[if_neg (by omega)]
 have hg : ∀ j t c,a8 ((k,(σ k 0).1,.mx (rows.set i (some (z,es))))::i9 k2 M) j t=some c ->
   (j=k/\t=0/\c = .mx (rows.set i (some (z,es))))\/(j=k/\t=i+1/\c = .rw z es)\/(j=k/\t≠0/\t≠i+1/\a8 M k t=some c)\/(j≠k/\j≠k2/\a8 M j t=some c):=by
  intro j t c g;by_cases hj:j=k
  ·subst hj
   cases t with
   | zero=>rw[WI]at g;exact Or.inl ⟨rfl,rfl,(Option.some.inj g).symm⟩
   | succ t =>
    simp only[a8,b9,Nat.beq_refl,cond_true]at g;by_cases hti:i=t
    ·subst hti
     rw[List.getElem?_set_self hi]at g;exact Or.inr (Or.inl ⟨rfl,rfl,(Option.some.inj g).symm⟩)
    ·rw[List.getElem?_set_ne hti]at g
     refine Or.inr (Or.inr (Or.inl ⟨rfl,by omega,by omega,?_⟩));rcases hc0 with rfl|⟨v,rfl⟩
     ·simp only[a8,e]
      exact g
     ·simp only[a8,e]
      exact g
  ·rw[OG hj]at g
   obtain ⟨g1,g2⟩:=JC g;exact Or.inr (Or.inr (Or.inr ⟨hj,g1,g2⟩))
 have Fs : ∀ j t c,a8 M j t=some c->TZ k c=false:=by
  intro j t c g;obtain ⟨s1,c0,g1,g2,g3⟩:=KW g;cases t with
  | zero=>rw[g2 rfl];exact lN hcm _ _ _ g1
  | succ t=>obtain ⟨_,_,_,_,_,rfl⟩:=g3 t rfl;rfl
 refine ⟨λ j => ?_,⟨?_,?_,?_,?_,?_⟩⟩
 ·rw[Mw (f:=λ t=>if t=i+1 then σ k2 0 else σ k t) f0 (lO u5 j)];exact h.tm j
 ·intro j s' c g
  simp only[b9]at g;cases hb:Nat.beq j k<;>simp only[hb,cond_true,cond_false]at g
  ·rw[EO _ (IG.1 hb)];exact h.sat.site _ _ _ (OC g).2
  ·simp only[Option.some.injEq,Prod.mk.injEq]at g
   rw[DI.1 hb,DN,<-g.1];simp
 ·intro j t c g
  rcases hg j t c g with ⟨rfl,rfl,rfl⟩|⟨rfl,rfl,rfl⟩|⟨rfl,h0,h1,g2⟩|⟨h0,h1,g2⟩
  ·rw[DN]
   simp only[CS.blk,dk];exact jG
  ·rw[DN]
   simp only[if_true];exact (YK (λ he=>hk (h.sat.inj _ _ _ _ _ _ r2 r0 he).1.symm)).trans (h.sat.blk _ _ _ r2)
  ·rw[DN]
   simp only[h1,if_false];have hb:c.blk (E6 σ j λ t=>if t=i+1 then σ k2 0 else σ j t) j=c.blk σ j:=by
    obtain ⟨_,_,_,_,g3⟩:=KW g2;obtain ⟨t',rfl⟩ : ∃ t',t=t'+1:=⟨t-1,by omega⟩;obtain ⟨_,_,_,_,_,rfl⟩:=g3 t' rfl;rfl
   rw[hb];exact (YK (λ he=>h0 (h.sat.inj _ _ _ _ _ _ g2 r0 he).2)).trans (h.sat.blk _ _ _ g2)
  ·rw[EO _ h0,uA (f:=λ t=>if t=i+1 then σ k2 0 else σ k t) f0 (Fs _ _ _ g2) h0]
   exact (YK (λ he=>h0 (h.sat.inj _ _ _ _ _ _ g2 r0 he).1)).trans (h.sat.blk _ _ _ g2)
 ·intro j t c g
  rw[dP];rcases hg j t c g with ⟨rfl,rfl,rfl⟩|⟨rfl,rfl,rfl⟩|⟨rfl,h0,h1,g2⟩|⟨h0,h1,g2⟩
  ·rw[DN];simpa using h.sat.old _ _ _ r0
  ·rw[DN];simpa using h.sat.old _ _ _ r2
  ·rw[DN];simp only[h1,if_false];exact h.sat.old _ _ _ g2
  ·rw[EO _ h0];exact h.sat.old _ _ _ g2
 ·-- each name is that of tn in the old memory
  have hold : ∀ j t c,a8 ((k,(σ k 0).1,.mx (rows.set i (some (z,es))))::i9 k2 M) j t=some c -> ∃ j0 t0 c0,a8 M j0 t0=some c0/\(E6 σ k λ t=>if t=i+1 then σ k2 0 else σ k t) j t=σ j0 t0/\((j0=k2/\t0=0/\j=k/\t=i+1)\/(j0=j/\t0=t/\j≠k2)):=by
   intro j t c g;rcases hg j t c g with ⟨rfl,rfl,rfl⟩|⟨rfl,rfl,rfl⟩|⟨rfl,h0,h1,g2⟩|⟨h0,h1,g2⟩
   ·exact ⟨_,_,_,r0,by rw[DN];simp,Or.inr ⟨rfl,rfl,hk⟩⟩
   ·exact ⟨_,_,_,r2,by rw[DN];simp,Or.inl ⟨rfl,rfl,rfl,rfl⟩⟩
   ·exact ⟨_,_,_,g2,by rw[DN];simp [h1],Or.inr ⟨rfl,rfl,hk⟩⟩
   ·exact ⟨_,_,_,g2,by rw[EO _ h0],Or.inr ⟨rfl,rfl,h1⟩⟩
  intro j t j' t' c c' g g' hj;obtain ⟨j0,t0,c0,a1,a2,a3⟩:=hold j t c g;obtain ⟨j1,t1,c1,b1,b2,b3⟩:=hold j' t' c' g';rw[a2,b2]at hj;obtain ⟨q1,q2⟩:=h.sat.inj _ _ _ _ _ _ a1 b1 hj;rcases a3 with ⟨x1,x2,x3,x4⟩|⟨x1,x2,x3⟩<;>rcases b3 with ⟨y1,y2,y3,y4⟩|⟨y1,y2,y3⟩
  ·exact ⟨x3.trans y3.symm,x4.trans y4.symm⟩
  ·exact absurd (y1.symm.trans (q1.symm.trans x1)) y3
  ·exact absurd (x1.symm.trans (q1.trans y1)) x3
  ·exact ⟨x1.symm.trans (q1.trans y1),x2.symm.trans (q2.trans y2)⟩
 ·intro j t c g hw
  rcases hg j t c g with ⟨rfl,rfl,rfl⟩|⟨rfl,rfl,rfl⟩|⟨rfl,h0,h1,g2⟩|⟨h0,h1,g2⟩
  ·rw[DN];simpa using h.sat.low _ _ _ r0 (by rcases hc0 with rfl|⟨v,rfl⟩<;>rfl)
  ·rw[DN];simpa using h.sat.low _ _ _ r2 rfl
  ·rw[DN];simp only[h1,if_false];exact h.sat.low _ _ _ g2 hw
  ·rw[EO _ h0];exact h.sat.low _ _ _ g2 hw
theorem X1 {own:BT} {q t:Nat} {b:GJ} {p:Nat × Nat} (h:p≠(q,t)) (ho:p.2<(own p.1).c8):((own.put q (((own q).l8 t none).new b)) p.1).blk p.2=(own p.1).blk p.2:=by
 by_cases hs:p.1=q
 ·rw[hs]at ho ⊢
  rw[BT.d6];simp only[D9.new,D9.l8];have h1 : ¬ p.2=(own q).c8:=by omega
  have h2 : ¬ p.2=t:=λ e=>h (Prod.ext hs e)
  simp only[h1,h2,if_false]
 ·rw[BT.bm _ _ _ _ hs]
theorem X3 {own:BT} {q t:Nat} {b:GJ} (s:Nat):(own s).c8<=((own.put q (((own q).l8 t none).new b)) s).c8:=by
 by_cases hs:s=q
 ·subst hs;rw[BT.d6];simp only[D9.new,D9.l8];omega
 ·rw[BT.bm _ _ _ _ hs];exact Nat.le_refl _
theorem RX.Ba (h:RX σ tm M st) {s key sk i z:Nat} {rows:List (Option (Nat × List (List AV)))} {es es':List (List AV)} (e:b9 M key=some (sk,.mx rows)) (hr:rows[i]? = some (some (z,es))) (hm:JT s M=false) (ht:LC s tm=false) :
  RX (E6 σ s λ_=>((σ key (i+1)).1,st.own.c8 (σ key (i+1)).1)) tm ((s,(σ key (i+1)).1,.rw z es')::(key,sk,.hx i (.row (σ key (i+1)).1 (σ key (i+1)).2 z 0 es.length) (rows.set i none))::i9 key M)
   ⟨st.tm,st.own.put (σ key (i+1)).1 (((st.own (σ key (i+1)).1).l8 (σ key (i+1)).2 none).new ⟨z,es'⟩)⟩:=by
 have r0:=GN e;have e1:a8 M key (i+1)=some (.rw z es):=by simp [a8,e,hr]
 have hi:i<rows.length:=(zS hr).1;have ux:key≠s:=(YP hm _ _ _ e).1;have dk:(DZ (E6 σ s λ_=>((σ key (i+1)).1,st.own.c8 (σ key (i+1)).1)) key 0 (rows.set i none)).set i [.row (σ key (i+1)).1 (σ key (i+1)).2 z 0 es.length]=DZ σ key 0 rows:=by
  apply List.ext_getElem?;intro j;by_cases hj:i=j
  ·subst hj
   rw[List.getElem?_set_self (by rw[H3,List.length_set];exact hi),H2,hr];simp
  ·rw[List.getElem?_set_ne hj,H2,H2,List.getElem?_set_ne hj,EO _ ux]
 have rh : ∀ j t c',a8 M j t=some c'->LB s c'=false/\j≠s:=by
  intro j t c' g;obtain ⟨s1,c0,g1,g2,g3⟩:=KW g;obtain ⟨g4,g5⟩:=YP hm _ _ _ g1;refine ⟨?_,g4⟩;cases t with
  | zero=>rw[g2 rfl];exact g5
  | succ i=>obtain ⟨rows,z,es,_,_,rfl⟩:=g3 i rfl;rfl
 have hg : ∀ j t c,a8 ((s,(σ key (i+1)).1,.rw z es')::(key,sk,.hx i (.row (σ key (i+1)).1 (σ key (i+1)).2 z 0 es.length) (rows.set i none))::i9 key M) j t=some c ->
   (j=s/\t=0/\c = .rw z es')\/(j=key/\t=0/\c = .hx i (.row (σ key (i+1)).1 (σ key (i+1)).2 z 0 es.length) (rows.set i none))\/(j≠s /\ ¬ (j=key/\t=0) /\ ¬ (j=key/\t=i+1)/\(j=key -> ∃ z es,c = .rw z es)/\a8 M j t=some c):=by
  intro j t c g;by_cases hj:j=s
  ·subst hj
   obtain ⟨rfl,rfl⟩:=Z8 (c := .rw z es') trivial g;exact Or.inl ⟨rfl,rfl,rfl⟩
  ·rw[OG hj]at g
   by_cases hk:j=key
   ·subst hk
    cases t with
    | zero=>rw[WI]at g;exact Or.inr (Or.inl ⟨rfl,rfl,(Option.some.inj g).symm⟩)
    | succ t =>
     simp only[a8,b9,Nat.beq_refl,cond_true]at g;by_cases hti:i=t
     ·subst hti
      rw[List.getElem?_set_self hi]at g;cases g
     ·rw[List.getElem?_set_ne hti]at g
      refine Or.inr (Or.inr ⟨hj,by omega,by omega,λ_ => ?_,?_⟩)
      ·split at g
       ·exact ⟨_,_,(Option.some.inj g).symm⟩
       ·cases g
      ·simp only[a8,e]
       exact g
   ·rw[OG hk]at g
    obtain ⟨g1,g2⟩:=JC g;exact Or.inr (Or.inr ⟨hj,by omega,by omega,λ h=>absurd h hk,g2⟩)
 refine ⟨λ j => ?_,⟨?_,?_,?_,?_,?_⟩⟩
 ·rw[kC (aI ht j)];exact h.tm j
 ·intro j s1 c g
  simp only[b9]at g;cases hb:Nat.beq j s<;>simp only[hb,cond_true,cond_false]at g
  ·rw[EO _ (IG.1 hb)]
   cases m7:Nat.beq j key<;>simp only[m7,cond_true,cond_false]at g
   ·exact h.sat.site _ _ _ (OC g).2
   ·simp only[Option.some.injEq,Prod.mk.injEq]at g
    rw[DI.1 m7,<-g.1];exact h.sat.site _ _ _ e
  ·simp only[Option.some.injEq,Prod.mk.injEq]at g
   rw[DI.1 hb,DN,<-g.1]
 ·intro j t c g
  rcases hg j t c g with ⟨rfl,rfl,rfl⟩|⟨rfl,rfl,rfl⟩|⟨h0,h1,h2,h3,g2⟩
  ·rw[DN]
   simp [BT.d6,D9.new,BT.c8,D9.l8,CS.blk]
  ·rw[EO _ ux]
   simp only[CS.blk,dk];exact (X1 (λ he=>absurd (h.sat.inj _ _ _ _ _ _ r0 e1 he).2 (by omega)) (h.sat.old _ _ _ r0)).trans (h.sat.blk _ _ _ r0)
  ·rw[EO _ h0,fW (rh _ _ _ g2).1 h0]
   exact (X1 (λ he=>h2 (h.sat.inj _ _ _ _ _ _ g2 e1 he)) (h.sat.old _ _ _ g2)).trans (h.sat.blk _ _ _ g2)
 ·intro j t c g
  rcases hg j t c g with ⟨rfl,rfl,rfl⟩|⟨rfl,rfl,rfl⟩|⟨h0,h1,h2,h3,g2⟩
  ·rw[DN]
   simp [BT.d6,D9.new,BT.c8,D9.l8]
  ·rw[EO _ ux]
   exact Nat.lt_of_lt_of_le (h.sat.old _ _ _ r0) (X3 _)
  ·rw[EO _ h0]
   exact Nat.lt_of_lt_of_le (h.sat.old _ _ _ g2) (X3 _)
 ·have hold : ∀ j t c,a8 ((s,(σ key (i+1)).1,.rw z es')::(key,sk,.hx i (.row (σ key (i+1)).1 (σ key (i+1)).2 z 0 es.length) (rows.set i none))::i9 key M) j t=some c->(j=s/\t=0)\/(j≠s /\ ∃ c0,a8 M j t=some c0):=by
   intro j t c g;rcases hg j t c g with ⟨rfl,rfl,rfl⟩|⟨rfl,rfl,rfl⟩|⟨h0,h1,h2,h3,g2⟩
   ·exact Or.inl ⟨rfl,rfl⟩
   ·exact Or.inr ⟨ux,_,r0⟩
   ·exact Or.inr ⟨h0,_,g2⟩
  have gb : ∀ j0 t0 c0,a8 M j0 t0=some c0->((σ key (i+1)).1,st.own.c8 (σ key (i+1)).1)≠σ j0 t0:=by
   intro j0 t0 c0 g he;have:=h.sat.old _ _ _ g;rw[<-he]at this;exact absurd this (Nat.lt_irrefl _)
  intro j t j' t' c c' g g' hj;rcases hold j t c g with ⟨rfl,rfl⟩|⟨a1,c1,a2⟩<;>rcases hold j' t' c' g' with ⟨rfl,rfl⟩|⟨b1,c2,b2⟩
  ·exact ⟨rfl,rfl⟩
  ·rw[DN,EO _ b1]at hj;exact absurd hj (gb _ _ _ b2)
  ·rw[DN,EO _ a1]at hj;exact absurd hj.symm (gb _ _ _ a2)
  ·rw[EO _ a1,EO _ b1]at hj
   exact h.sat.inj _ _ _ _ _ _ a2 b2 hj
 ·intro j t c g hw
  rcases hg j t c g with ⟨rfl,rfl,rfl⟩|⟨rfl,rfl,rfl⟩|⟨h0,h1,h2,h3,g2⟩
  ·rw[DN];exact h.sat.low _ _ _ e1 rfl
  ·rw[EO _ ux];exact h.sat.low _ _ _ r0 rfl
  ·rw[EO _ h0];exact h.sat.low _ _ _ g2 hw
theorem RX.view (h:RX σ tm M st) {k s:Nat} {c0:CS} {rows:List (Option (Nat × List (List AV)))} {w:List Nat} (e:b9 M k=some (s,c0)) (hc0:c0 = .mx rows \/ ∃ w0,c0 = .vw w0 rows) :
  RX σ tm ((k,s,.vw w rows)::M) ⟨st.tm,st.own.put s ((st.own s).l8 (σ k 0).2 (some (CS.blk σ k (.vw w rows))))⟩:=by
 have hs:=h.sat.site _ _ _ e;subst hs;have r0:=GN e;have hg : ∀ j t c,a8 ((k,(σ k 0).1,.vw w rows)::M) j t=some c->(j=k/\t=0/\c = .vw w rows)\/(¬ (j=k/\t=0)/\a8 M j t=some c):=by
  intro j t c g;by_cases hj:j=k
  ·subst hj
   cases t with
   | zero=>rw[WI]at g;exact Or.inl ⟨rfl,rfl,(Option.some.inj g).symm⟩
   | succ t =>
    refine Or.inr ⟨by omega,?_⟩;simp only[a8,b9,Nat.beq_refl,cond_true]at g;rcases hc0 with rfl|⟨w0,rfl⟩
    ·simp only[a8,e]
     exact g
    ·simp only[a8,e]
     exact g
  ·rw[OG hj]at g
   exact Or.inr ⟨by omega,g⟩
 have jc : ∀ j t c1,a8 ((k,(σ k 0).1,.vw w rows)::M) j t=some c1 -> ∃ c2,a8 M j t=some c2:=by
  intro j t c1 g;rcases hg j t c1 g with ⟨rfl,rfl,rfl⟩|⟨_,h2⟩
  ·exact ⟨_,r0⟩
  ·exact ⟨_,h2⟩
 refine ⟨h.tm,⟨?_,?_,?_,?_,?_⟩⟩
 ·intro j s' c1 g
  simp only[b9]at g;cases hb:Nat.beq j k<;>simp only[hb,cond_true,cond_false]at g
  ·exact h.sat.site _ _ _ g
  ·simp only[Option.some.injEq,Prod.mk.injEq]at g
   rw[DI.1 hb];exact g.1
 ·intro j t c1 g
  rcases hg j t c1 g with ⟨rfl,rfl,rfl⟩|⟨h1,h2⟩
  ·exact jG
  ·refine (YK (λ he => ?_)).trans (h.sat.blk _ _ _ h2)
   exact h1 (h.sat.inj _ _ _ _ _ _ h2 r0 he)
 ·intro j t c1 g
  obtain ⟨c2,e2⟩:=jc _ _ _ g;show (σ j t).2<((st.own.put (σ k 0).1 ((st.own (σ k 0).1).l8 (σ k 0).2 _)) (σ j t).1).c8;rw[dP];exact h.sat.old _ _ _ e2
 ·intro j t j' t' c1 c2 g1 g2 hj
  obtain ⟨_,e1'⟩:=jc _ _ _ g1;obtain ⟨_,e2'⟩:=jc _ _ _ g2;exact h.sat.inj _ _ _ _ _ _ e1' e2' hj
 ·intro j t c1 g hw
  rcases hg j t c1 g with ⟨rfl,rfl,rfl⟩|⟨_,h2⟩
  ·exact h.sat.low _ _ _ r0 (by rcases hc0 with rfl|⟨w0,rfl⟩<;>rfl)
  ·exact h.sat.low _ _ _ h2 hw
theorem RX.se (h:RX σ tm M st) {k s:Nat} {rows m6:List (Option (Nat × List (List AV)))} {w:List Nat} (e:b9 M k=some (s,.vw w rows)) (hl:m6.length=w.length)
  (hw : ∀ (i t:Nat),w[i]? = some t -> ∃ r,rows[t]? = some r/\m6[i]? = some r) (hi : ∀ (i i' t:Nat),w[i]? = some t->w[i']? = some t->i=i') (u5:MY k tm=false) (hcm:LK k M=false) :
  ∃ σ',RX σ' tm ((k,s,.mx m6)::M) st:=by
 have hs:=h.sat.site _ _ _ e;subst hs;have r0:=GN e;obtain ⟨f,hf⟩ : ∃ f:Nat->Nat × Nat,f=λ t=>match t with|0=>σ k 0|i+1=>match w[i]? with|some v=>σ k (v+1)|none=>σ k (i+1):=⟨_,rfl⟩
 have f0:f 0=σ k 0:=by rw[hf]
 have f1 : ∀ i v,w[i]? = some v->f (i+1)=σ k (v+1):=λ i v hv=>by rw[hf];simp only[hv]
 have Fs : ∀ j t c,a8 M j t=some c->TZ k c=false:=by
  intro j t c g;obtain ⟨s1,c0,g1,g2,g3⟩:=KW g;cases t with
  | zero=>rw[g2 rfl];exact lN hcm _ _ _ g1
  | succ t=>obtain ⟨_,_,_,_,_,rfl⟩:=g3 t rfl;rfl
 have hwl : ∀ i,i<m6.length -> ∃ v r,w[i]? = some v/\rows[v]? = some r/\m6[i]? = some r:=λ i hi=>by
  obtain ⟨v,hv⟩ : ∃ v,w[i]? = some v:=⟨_,zE (by omega)⟩;obtain ⟨r,h1,h2⟩:=hw i v hv;exact ⟨v,r,hv,h1,h2⟩
 have dk:DZ (E6 σ k f) k 0 m6=w.map λ t=>((DZ σ k 0 rows)[t]?).getD []:=by
  apply List.ext_getElem?;intro i;rw[H2,DN,List.getElem?_map];by_cases hil:i<m6.length
  ·obtain ⟨v,r,h1,h2,h3⟩:=hwl i hil
   rw[h3,h1,Option.map_some,Option.map_some,H2,h2,Option.map_some,Option.getD_some,Nat.zero_add,Nat.zero_add,f1 i v h1]
  ·rw[List.getElem?_eq_none (by omega),List.getElem?_eq_none (by omega)];rfl
 have hg : ∀ j t c,a8 ((k,(σ k 0).1,.mx m6)::M) j t=some c ->
   (j=k/\t=0/\c = .mx m6)\/(∃ i v,j=k/\t=i+1/\w[i]? = some v/\a8 M k (v+1)=some c)\/(j≠k/\a8 M j t=some c):=by
  intro j t c g;by_cases hj:j=k
  ·subst hj
   cases t with
   | zero=>rw[WI]at g;exact Or.inl ⟨rfl,rfl,(Option.some.inj g).symm⟩
   | succ t =>
    simp only[a8,b9,Nat.beq_refl,cond_true]at g;by_cases htl:t<m6.length
    ·obtain ⟨v,r,h1,h2,h3⟩:=hwl t htl
     refine Or.inr (Or.inl ⟨t,v,rfl,rfl,h1,?_⟩);rw[h3]at g;simp only[a8,e,h2];exact g
    ·rw[List.getElem?_eq_none (by omega)]at g;cases g
  ·rw[OG hj]at g
   exact Or.inr (Or.inr ⟨hj,g⟩)
 have hcr : ∀ v c,a8 M k (v+1)=some c -> ∃ z es,c = .rw z es:=λ v c g=>by
  obtain ⟨_,_,_,_,g3⟩:=KW g;obtain ⟨_,z,es,_,_,rfl⟩:=g3 v rfl;exact ⟨z,es,rfl⟩
 refine ⟨E6 σ k f,λ j => ?_,⟨?_,?_,?_,?_,?_⟩⟩
 ·rw[Mw f0 (lO u5 j)];exact h.tm j
 ·intro j s' c g
  simp only[b9]at g;cases hb:Nat.beq j k<;>simp only[hb,cond_true,cond_false]at g
  ·rw[EO _ (IG.1 hb)];exact h.sat.site _ _ _ g
  ·simp only[Option.some.injEq,Prod.mk.injEq]at g
   rw[DI.1 hb,DN,<-g.1,f0]
 ·intro j t c g
  rcases hg j t c g with ⟨rfl,rfl,rfl⟩|⟨i,v,rfl,rfl,h1,g2⟩|⟨h0,g2⟩
  ·rw[DN,f0]
   have:=h.sat.blk _ _ _ r0
   simp only[CS.blk,dk]at this ⊢;exact this
  ·rw[DN,f1 i v h1]
   obtain ⟨z,es,rfl⟩:=hcr v c g2;exact h.sat.blk _ _ _ g2
  ·rw[EO _ h0,uA f0 (Fs _ _ _ g2) h0]
   exact h.sat.blk _ _ _ g2
 ·intro j t c g
  rcases hg j t c g with ⟨rfl,rfl,rfl⟩|⟨i,v,rfl,rfl,h1,g2⟩|⟨h0,g2⟩
  ·rw[DN,f0];exact h.sat.old _ _ _ r0
  ·rw[DN,f1 i v h1];exact h.sat.old _ _ _ g2
  ·rw[EO _ h0];exact h.sat.old _ _ _ g2
 ·have hold : ∀ j t c,a8 ((k,(σ k 0).1,.mx m6)::M) j t=some c -> ∃ j0 t0 c0,a8 M j0 t0=some c0/\(E6 σ k f) j t=σ j0 t0/\((j=k/\j0=k/\((t=0/\t0=0) \/ ∃ i v,t=i+1/\t0=v+1/\w[i]? = some v))\/(j≠k/\j0=j/\t0=t)):=by
   intro j t c g;rcases hg j t c g with ⟨rfl,rfl,rfl⟩|⟨i,v,rfl,rfl,h1,g2⟩|⟨h0,g2⟩
   ·exact ⟨_,_,_,r0,by rw[DN,f0],Or.inl ⟨rfl,rfl,Or.inl ⟨rfl,rfl⟩⟩⟩
   ·exact ⟨_,_,_,g2,by rw[DN,f1 i v h1],Or.inl ⟨rfl,rfl,Or.inr ⟨i,v,rfl,rfl,h1⟩⟩⟩
   ·exact ⟨_,_,_,g2,by rw[EO _ h0],Or.inr ⟨h0,rfl,rfl⟩⟩
  intro j t j' t' c c' g g' hj;obtain ⟨j0,t0,c0,a1,a2,a3⟩:=hold j t c g;obtain ⟨j1,t1,c1,b1,b2,b3⟩:=hold j' t' c' g';rw[a2,b2]at hj;obtain ⟨q1,q2⟩:=h.sat.inj _ _ _ _ _ _ a1 b1 hj;rcases a3 with ⟨x1,x2,x3⟩|⟨x1,x2,x3⟩<;>rcases b3 with ⟨y1,y2,y3⟩|⟨y1,y2,y3⟩
  ·refine ⟨x1.trans y1.symm,?_⟩
   rcases x3 with ⟨x4,x5⟩|⟨i,v,x4,x5,x6⟩<;>rcases y3 with ⟨y4,y5⟩|⟨i',v',y4,y5,y6⟩
   ·omega
   ·omega
   ·omega
   ·obtain rfl:v=v':=by omega
    have:=hi i i' v x6 y6
    omega
  ·exact absurd (y2.symm.trans (q1.symm.trans x2)) y1
  ·exact absurd (x2.symm.trans (q1.trans y2)) x1
  ·exact ⟨x2.symm.trans (q1.trans y2),x3.symm.trans (q2.trans y3)⟩
 ·intro j t c g hw
  rcases hg j t c g with ⟨rfl,rfl,rfl⟩|⟨i,v,rfl,rfl,h1,g2⟩|⟨h0,g2⟩
  ·rw[DN,f0];exact h.sat.low _ _ _ r0 rfl
  ·rw[DN,f1 i v h1];exact h.sat.low _ _ _ g2 (iR g2)
  ·rw[EO _ h0];exact h.sat.low _ _ _ g2 hw
theorem RX.Bc (h:RX σ tm M st) {s key s':Nat} {rows:List (Option (Nat × List (List AV)))} (e:b9 M key=some (s',.mx rows)) (hm:JT s M=false) (ht:LC s tm=false) :
  RX (E6 σ s λ t=>match t with|0=>(s',st.own.c8 s')|i+1=>σ key (i+1)) tm ((s,s',.mx (rows++[none]))::i9 key M)
   ⟨st.tm,st.own.put s' (((st.own s').l8 (σ key 0).2 none).new ⟨1,DZ σ key 0 rows++[[.nil]]⟩)⟩:=by
 have hs:=h.sat.site _ _ _ e;subst hs;have r0:=GN e;generalize hF:(λ t=>match t with|0=>((σ key 0).1,st.own.c8 (σ key 0).1)|i+1=>σ key (i+1):Nat->Nat × Nat)=F;have F0:F 0=((σ key 0).1,st.own.c8 (σ key 0).1):=by rw[<-hF]
 have F1 : ∀ i,F (i+1)=σ key (i+1):=by intro i;rw[<-hF]
 have dk:DZ (E6 σ s F) s 0 (rows++[none])=DZ σ key 0 rows++[[.nil]]:=by
  apply List.ext_getElem?;intro j;rw[H2,DN];rcases Nat.lt_trichotomy j rows.length with hj|hj|hj
  ·rw[List.getElem?_append_left hj,List.getElem?_append_left (by rw[H3];exact hj),H2]
   congr 1;funext r;cases r with
   | none=>rfl
   | some x=>simp only[Nat.zero_add];rw[F1]
  ·subst hj
   rw[List.getElem?_append_right (Nat.le_refl _),List.getElem?_append_right (by rw[H3];exact Nat.le_refl _),H3];simp
  ·rw[List.getElem?_eq_none (by simp;omega),List.getElem?_eq_none (by simp [H3];omega)];rfl
 have rh : ∀ j t c',a8 M j t=some c'->LB s c'=false/\j≠s:=by
  intro j t c' g;obtain ⟨s1,c0,g1,g2,g3⟩:=KW g;obtain ⟨g4,g5⟩:=YP hm _ _ _ g1;refine ⟨?_,g4⟩;cases t with
  | zero=>rw[g2 rfl];exact g5
  | succ i=>obtain ⟨rows,z,es,_,_,rfl⟩:=g3 i rfl;rfl
 have hg : ∀ j t c,a8 ((s,(σ key 0).1,.mx (rows++[none]))::i9 key M) j t=some c ->
   (j=s/\t=0/\c = .mx (rows++[none]))\/(j=s/\t≠0/\a8 M key t=some c)\/(j≠s/\j≠key/\a8 M j t=some c):=by
  intro j t c g;by_cases hj:j=s
  ·subst hj
   cases t with
   | zero=>rw[WI]at g;exact Or.inl ⟨rfl,rfl,(Option.some.inj g).symm⟩
   | succ t =>
    simp only[a8,b9,Nat.beq_refl,cond_true]at g;rcases Nat.lt_trichotomy t rows.length with gn|gn|gn
    ·rw[List.getElem?_append_left gn]at g
     refine Or.inr (Or.inl ⟨rfl,by omega,?_⟩);simp only[a8,e];exact g
    ·subst gn
     rw[List.getElem?_append_right (Nat.le_refl _),Nat.sub_self]at g;simp at g
    ·rw[List.getElem?_eq_none (by simp;omega)]at g;cases g
  ·rw[OG hj]at g
   obtain ⟨g1,g2⟩:=JC g;exact Or.inr (Or.inr ⟨hj,g1,g2⟩)
 refine ⟨λ j => ?_,⟨?_,?_,?_,?_,?_⟩⟩
 ·rw[kC (aI ht j)];exact h.tm j
 ·intro j s1 c g
  simp only[b9]at g;cases hb:Nat.beq j s<;>simp only[hb,cond_true,cond_false]at g
  ·rw[EO _ (IG.1 hb)];exact h.sat.site _ _ _ (OC g).2
  ·simp only[Option.some.injEq,Prod.mk.injEq]at g
   rw[DI.1 hb,DN,F0,<-g.1]
 ·intro j t c g
  rcases hg j t c g with ⟨rfl,rfl,rfl⟩|⟨rfl,h0,g2⟩|⟨h0,h1,g2⟩
  ·rw[DN,F0]
   simp only[CS.blk,dk];simp [BT.d6,D9.new,BT.c8,D9.l8]
  ·obtain ⟨t',rfl⟩ : ∃ t',t=t'+1:=⟨t-1,by omega⟩
   rw[DN,F1];have hb:c.blk (E6 σ j F) j=c.blk σ key:=by
    obtain ⟨_,_,_,_,g3⟩:=KW g2;obtain ⟨_,_,_,_,_,rfl⟩:=g3 t' rfl;rfl
   rw[hb];exact (X1 (λ he=>absurd (h.sat.inj _ _ _ _ _ _ g2 r0 he).2 (by omega)) (h.sat.old _ _ _ g2)).trans (h.sat.blk _ _ _ g2)
  ·rw[EO _ h0,fW (rh _ _ _ g2).1 h0]
   exact (X1 (λ he=>h1 (h.sat.inj _ _ _ _ _ _ g2 r0 he).1) (h.sat.old _ _ _ g2)).trans (h.sat.blk _ _ _ g2)
 ·intro j t c g
  rcases hg j t c g with ⟨rfl,rfl,rfl⟩|⟨rfl,h0,g2⟩|⟨h0,h1,g2⟩
  ·rw[DN,F0]
   simp [BT.d6,D9.new,BT.c8,D9.l8]
  ·obtain ⟨t',rfl⟩ : ∃ t',t=t'+1:=⟨t-1,by omega⟩
   rw[DN,F1];exact Nat.lt_of_lt_of_le (h.sat.old _ _ _ g2) (X3 _)
  ·rw[EO _ h0]
   exact Nat.lt_of_lt_of_le (h.sat.old _ _ _ g2) (X3 _)
 ·have hold : ∀ j t c,a8 ((s,(σ key 0).1,.mx (rows++[none]))::i9 key M) j t=some c->(j=s/\t=0) \/ ∃ j0 t0 c0,a8 M j0 t0=some c0/\E6 σ s F j t=σ j0 t0/\((j0=key/\t0=t/\j=s)\/(j0=j/\t0=t/\j≠key)):=by
   intro j t c g;rcases hg j t c g with ⟨rfl,rfl,rfl⟩|⟨rfl,h0,g2⟩|⟨h0,h1,g2⟩
   ·exact Or.inl ⟨rfl,rfl⟩
   ·obtain ⟨t',rfl⟩ : ∃ t',t=t'+1:=⟨t-1,by omega⟩
    exact Or.inr ⟨_,_,_,g2,by rw[DN,F1],Or.inl ⟨rfl,rfl,rfl⟩⟩
   ·exact Or.inr ⟨_,_,_,g2,by rw[EO _ h0],Or.inr ⟨rfl,rfl,h1⟩⟩
  have gb : ∀ j0 t0 c0,a8 M j0 t0=some c0->E6 σ s F s 0≠σ j0 t0:=by
   intro j0 t0 c0 g he;rw[DN,F0]at he;have:=h.sat.old _ _ _ g;rw[<-he]at this;exact absurd this (Nat.lt_irrefl _)
  intro j t j' t' c c' g g' hj;rcases hold j t c g with ⟨rfl,rfl⟩|⟨j0,t0,c0,a1,a2,a3⟩<;>rcases hold j' t' c' g' with ⟨rfl,rfl⟩|⟨j1,t1,c1,b1,b2,b3⟩
  ·exact ⟨rfl,rfl⟩
  ·rw[b2]at hj;exact absurd hj (gb _ _ _ b1)
  ·rw[a2]at hj;exact absurd hj.symm (gb _ _ _ a1)
  ·rw[a2,b2]at hj
   obtain ⟨q1,q2⟩:=h.sat.inj _ _ _ _ _ _ a1 b1 hj;rcases a3 with ⟨x1,x2,x3⟩|⟨x1,x2,x3⟩<;>rcases b3 with ⟨y1,y2,y3⟩|⟨y1,y2,y3⟩
   ·exact ⟨x3.trans y3.symm,x2.symm.trans (q2.trans y2)⟩
   ·exact absurd (y1.symm.trans (q1.symm.trans x1)) y3
   ·exact absurd (x1.symm.trans (q1.trans y1)) x3
   ·exact ⟨x1.symm.trans (q1.trans y1),x2.symm.trans (q2.trans y2)⟩
 ·intro j t c g hw
  rcases hg j t c g with ⟨rfl,rfl,rfl⟩|⟨rfl,h0,g2⟩|⟨h0,h1,g2⟩
  ·rw[DN,F0];exact h.sat.low _ _ _ r0 rfl
  ·obtain ⟨t',rfl⟩ : ∃ t',t=t'+1:=⟨t-1,by omega⟩
   rw[DN,F1];exact h.sat.low _ _ _ g2 hw
  ·rw[EO _ h0];exact h.sat.low _ _ _ g2 hw
theorem lM {k:Nat} {v:AV} (h:SV k v=false):UY k v=false:=by
 cases v with
 | row j t z o n=>simp only[SV]at h;simp only[UY,h,cond_false]
 | ptr j t a b=>simp only[SV]at h;simp only[UY,h,cond_false]
 | _=>rfl
theorem bQ {k:Nat} : ∀ {cs:List AV},LW k cs=false->T3 k cs=false
 | [],_=>rfl
 | c::r,h=>by
  simp only[LW]at h;cases h1:SV k c<;>simp only[h1,cond_true,cond_false]at h
  ·simp only[T3,lM h1,cond_false,bQ h]
  ·cases h
theorem uH {k:Nat} : ∀ {es:List (List AV)},WP k es=false->ZN k es=false
 | [],_=>rfl
 | c::r,h=>by
  simp only[WP]at h;cases h1:LW k c<;>simp only[h1,cond_true,cond_false]at h
  ·simp only[ZN,bQ h1,cond_false,uH h]
  ·cases h
theorem bP {k:Nat} {v:AV} (h:VO k v=false):XL k v=false:=by
 cases v with
 | agg cs=>exact bQ h
 | fn p f g cs=>exact bQ h
 | row a b c d e=>exact lM (v := .row a b c d e) h
 | ptr a b c d=>exact lM (v := .ptr a b c d) h
 | _=>rfl
theorem uG {k:Nat} : ∀ {cs:List AV},aH k cs=false->ZM k cs=false
 | [],_=>rfl
 | c::r,h=>by
  simp only[aH]at h;cases h1:VO k c<;>simp only[h1,cond_true,cond_false]at h
  ·simp only[ZM,bP h1,cond_false,uG h]
  ·cases h
theorem Ye {k:Nat} {v:AV} (h:SW k v=false):V5 k v=false:=by
 cases v with
 | tup cs=>exact uG h
 | agg cs=>exact bP (v := .agg cs) h
 | fn p f g cs=>exact bP (v := .fn p f g cs) h
 | row a b c d e=>exact bP (v := .row a b c d e) h
 | ptr a b c d=>exact bP (v := .ptr a b c d) h
 | _=>rfl
theorem uJ {k:Nat} : ∀ {tm:Tm},LC k tm=false->MY k tm=false
 | [],_=>rfl
 | (i,v)::r,h=>by
  simp only[LC]at h;cases h1:SW k v<;>simp only[h1,cond_true,cond_false]at h
  ·simp only[MY,Ye h1,cond_false,uJ h]
  ·cases h
theorem uI {k:Nat} : ∀ {M:Mem},JT k M=false->LK k M=false
 | [],_=>rfl
 | (i,s,c)::r,h=>by
  simp only[JT]at h;cases h0:Nat.beq k i<;>simp only[h0,cond_true,cond_false]at h
  ·cases h1:LB k c<;>simp only[h1,cond_true,cond_false]at h
   ·have:TZ k c=false:=by
     cases c with
     | bx cs=>exact bQ h1
     | bs z es=>exact uH h1
     | _=>rfl
    simp only[LK,this,cond_false,uI h]
   ·cases h
  ·cases h
theorem RX.hid {M1 M2:Mem} (hm : ∀ k,b9 M1 k=b9 M2 k) (h:RX σ tm M1 st):RX σ tm M2 st:=by
 have hr : ∀ k t,a8 M1 k t=a8 M2 k t:=λ k t=>by simp only[a8,hm]
 refine ⟨h.tm,⟨λ k s c e => ?_,λ k t c e => ?_,λ k t c e => ?_,λ k t k' t' c c' e e' => ?_,λ k t c e hw => ?_⟩⟩
 ·rw[<-hm]at e;exact h.sat.site _ _ _ e
 ·rw[<-hr]at e;exact h.sat.blk _ _ _ e
 ·rw[<-hr]at e;exact h.sat.old _ _ _ e
 ·rw[<-hr]at e e';exact h.sat.inj _ _ _ _ _ _ e e'
 ·rw[<-hr]at e;exact h.sat.low _ _ _ e hw
theorem RX.Hu (h:RX σ tm M st) {s q k2 s2 z:Nat} {es:List (List AV)} (e2:b9 M k2=some (s2,.rw z es)) (hk:s≠k2) (hm:JT s M=false) (ht:LC s tm=false) (hq:HM q=true) :
  ∃ σ',σ' s 0=(q,st.own.c8 q)/\RX σ' tm ((s,q,.mx [some (z,es)])::i9 k2 M) ⟨st.tm,st.own.put q ((st.own q).new ⟨1,[[.row (σ k2 0).1 (σ k2 0).2 z 0 es.length]]⟩)⟩:=by
 have hfl:CS.flat (.mx [none]):=by
  intro i x hx;cases i with
  | zero=>simp at hx
  | succ i=>simp at hx
 have h1:=h.ax (s:=s) (q:=q) hm ht (.mx [none]) hfl rfl (λ_=>hq);have e2':b9 ((s,q,.mx [none])::M) k2=some (s2,.rw z es):=by
  simp only[b9,IG.2 (λ e=>hk e.symm),cond_false];exact e2
 have hcm:LK s ((s,q,.mx [none])::M)=false:=by simp only[LK,TZ,cond_false,uI hm]
 have h2:=h1.ry (k:=s) (s:=q) (k2:=k2) (i:=0) (rows:=[none]) (c0 := .mx [none]) (by simp [b9]) (Or.inl rfl) e2' hk (uJ ht) hcm (by simp);refine ⟨E6 σ s (λ t=>if t=0+1 then σ k2 0 else (q,st.own.c8 q)),?_,?_⟩
 ·rw[DN];simp
 ·have hσ:(E6 (E6 σ s λ_=>(q,st.own.c8 q)) s λ t=>if t=0+1 then (E6 σ s λ_=>(q,st.own.c8 q)) k2 0 else (E6 σ s λ_=>(q,st.own.c8 q)) s t)=E6 σ s (λ t=>if t=0+1 then σ k2 0 else (q,st.own.c8 q)):=by
   funext j t
   by_cases hj:j=s
   ·subst hj;rw[DN,DN];simp only[DN,EO _ (λ e=>hk e.symm)]
   ·rw[EO _ hj,EO _ hj,EO _ hj]
  rw[hσ]at h2;have hM:i9 k2 ((s,q,CS.mx [none])::M)=(s,q,.mx [none])::i9 k2 M:=by
   simp only[i9,IG.2 (λ e=>hk e.symm),cond_false]
  rw[hM]at h2;have ho : ∀ b b':GJ,(st.own.put q ((st.own q).new b)).put q (((st.own.put q ((st.own q).new b)) q).l8 (st.own.c8 q) (some b'))=st.own.put q ((st.own q).new b'):=by
   intro b b';rw[BT.ep,BT.d6];congr 1;simp only[D9.l8,D9.new,BT.c8,D9.mk.injEq,true_and];funext t';by_cases gn:t'=(st.own q).c8<;>simp [gn]
  have hn:(E6 σ s λ_=>(q,st.own.c8 q)) s 0=(q,st.own.c8 q):=by rw[DN]
  have hk2:(E6 σ s λ_=>(q,st.own.c8 q)) k2=σ k2:=EO _ (λ e=>hk e.symm);simp only[hn,hk2]at h2;rw[ho]at h2;refine RX.hid (λ k => ?_) h2;simp only[b9];cases Nat.beq k s<;>rfl
theorem RX.Bb (h:RX σ tm M st) {s key k2 ky s' s2 z:Nat} {rows:List (Option (Nat × List (List AV)))} {es:List (List AV)} (e:b9 M key=some (s',.mx rows)) (e2:b9 M k2=some (s2,.rw z es)) (hk:key≠k2) (hm:JT s M=false) (ht:LC s tm=false) :
  RX (E6 σ s λ t=>match t with|0=>(s',st.own.c8 s')|i+1=>if i=rows.length then σ k2 0 else σ key (i+1)) tm ((s,s',.mx (rows++[some (z,es)]))::i9 key (i9 k2 (i9 ky M)))
   ⟨st.tm,st.own.put s' (((st.own s').l8 (σ key 0).2 none).new ⟨1,DZ σ key 0 rows++[[.row (σ k2 0).1 (σ k2 0).2 z 0 es.length]]⟩)⟩:=by
 have hs:=h.sat.site _ _ _ e;subst hs;have r0:=GN e;have r2:=GN e2;generalize hF:(λ t=>match t with|0=>((σ key 0).1,st.own.c8 (σ key 0).1)|i+1=>if i=rows.length then σ k2 0 else σ key (i+1):Nat->Nat × Nat)=F;have F0:F 0=((σ key 0).1,st.own.c8 (σ key 0).1):=by rw[<-hF]
 have F1 : ∀ i,F (i+1)=if i=rows.length then σ k2 0 else σ key (i+1):=by intro i;rw[<-hF]
 have dk:DZ (E6 σ s F) s 0 (rows++[some (z,es)])=DZ σ key 0 rows++[[.row (σ k2 0).1 (σ k2 0).2 z 0 es.length]]:=by
  apply List.ext_getElem?;intro j;rw[H2,DN];rcases Nat.lt_trichotomy j rows.length with hj|hj|hj
  ·rw[List.getElem?_append_left hj,List.getElem?_append_left (by rw[H3];exact hj),H2]
   congr 1;funext r;cases r with
   | none=>rfl
   | some x=>simp only[Nat.zero_add];rw[F1,if_neg (by omega)]
  ·subst hj
   rw[List.getElem?_append_right (Nat.le_refl _),List.getElem?_append_right (by rw[H3];exact Nat.le_refl _),H3];simp [F1]
  ·rw[List.getElem?_eq_none (by simp;omega),List.getElem?_eq_none (by simp [H3];omega)];rfl
 have rh : ∀ j t c',a8 M j t=some c'->LB s c'=false/\j≠s:=by
  intro j t c' g;obtain ⟨s1,c0,g1,g2,g3⟩:=KW g;obtain ⟨g4,g5⟩:=YP hm _ _ _ g1;refine ⟨?_,g4⟩;cases t with
  | zero=>rw[g2 rfl];exact g5
  | succ i=>obtain ⟨rows,z,es,_,_,rfl⟩:=g3 i rfl;rfl
 have hg : ∀ j t c,a8 ((s,(σ key 0).1,.mx (rows++[some (z,es)]))::i9 key (i9 k2 (i9 ky M))) j t=some c ->
   (j=s/\t=0/\c = .mx (rows++[some (z,es)]))\/(j=s/\t=rows.length+1/\c = .rw z es)\/(j=s/\t≠0/\t≠rows.length+1/\a8 M key t=some c)\/(j≠s/\j≠key/\j≠k2/\a8 M j t=some c):=by
  intro j t c g;by_cases hj:j=s
  ·subst hj
   cases t with
   | zero=>rw[WI]at g;exact Or.inl ⟨rfl,rfl,(Option.some.inj g).symm⟩
   | succ t =>
    simp only[a8,b9,Nat.beq_refl,cond_true]at g;rcases Nat.lt_trichotomy t rows.length with gn|gn|gn
    ·rw[List.getElem?_append_left gn]at g
     refine Or.inr (Or.inr (Or.inl ⟨rfl,by omega,by omega,?_⟩));simp only[a8,e];exact g
    ·subst gn
     rw[List.getElem?_append_right (Nat.le_refl _),Nat.sub_self]at g;exact Or.inr (Or.inl ⟨rfl,rfl,(Option.some.inj g).symm⟩)
    ·rw[List.getElem?_eq_none (by simp;omega)]at g;cases g
  ·rw[OG hj]at g
   obtain ⟨g1,g2⟩:=JC g;obtain ⟨g3,g4⟩:=JC g2;obtain ⟨_,g5⟩:=JC g4;exact Or.inr (Or.inr (Or.inr ⟨hj,g1,g3,g5⟩))
 refine ⟨λ j => ?_,⟨?_,?_,?_,?_,?_⟩⟩
 ·rw[kC (aI ht j)];exact h.tm j
 ·intro j s1 c g
  simp only[b9]at g;cases hb:Nat.beq j s<;>simp only[hb,cond_true,cond_false]at g
  ·rw[EO _ (IG.1 hb)];exact h.sat.site _ _ _ (OC (OC (OC g).2).2).2
  ·simp only[Option.some.injEq,Prod.mk.injEq]at g
   rw[DI.1 hb,DN,F0,<-g.1]
 ·intro j t c g
  rcases hg j t c g with ⟨rfl,rfl,rfl⟩|⟨rfl,rfl,rfl⟩|⟨rfl,h0,h1,g2⟩|⟨h0,h1,h2,g2⟩
  ·rw[DN,F0]
   simp only[CS.blk,dk];simp [BT.d6,D9.new,BT.c8,D9.l8]
  ·rw[DN,F1,if_pos rfl]
   exact (X1 (λ he=>hk (h.sat.inj _ _ _ _ _ _ r2 r0 he).1.symm) (h.sat.old _ _ _ r2)).trans (h.sat.blk _ _ _ r2)
  ·obtain ⟨t',rfl⟩ : ∃ t',t=t'+1:=⟨t-1,by omega⟩
   rw[DN,F1,if_neg (by omega)];have hb:c.blk (E6 σ j F) j=c.blk σ key:=by
    obtain ⟨_,_,_,_,g3⟩:=KW g2;obtain ⟨_,_,_,_,_,rfl⟩:=g3 t' rfl;rfl
   rw[hb];exact (X1 (λ he=>absurd (h.sat.inj _ _ _ _ _ _ g2 r0 he).2 (by omega)) (h.sat.old _ _ _ g2)).trans (h.sat.blk _ _ _ g2)
  ·rw[EO _ h0,fW (rh _ _ _ g2).1 h0]
   exact (X1 (λ he=>h1 (h.sat.inj _ _ _ _ _ _ g2 r0 he).1) (h.sat.old _ _ _ g2)).trans (h.sat.blk _ _ _ g2)
 ·intro j t c g
  rcases hg j t c g with ⟨rfl,rfl,rfl⟩|⟨rfl,rfl,rfl⟩|⟨rfl,h0,h1,g2⟩|⟨h0,h1,h2,g2⟩
  ·rw[DN,F0]
   simp [BT.d6,D9.new,BT.c8,D9.l8]
  ·rw[DN,F1,if_pos rfl]
   exact Nat.lt_of_lt_of_le (h.sat.old _ _ _ r2) (X3 _)
  ·obtain ⟨t',rfl⟩ : ∃ t',t=t'+1:=⟨t-1,by omega⟩
   rw[DN,F1,if_neg (by omega)];exact Nat.lt_of_lt_of_le (h.sat.old _ _ _ g2) (X3 _)
  ·rw[EO _ h0]
   exact Nat.lt_of_lt_of_le (h.sat.old _ _ _ g2) (X3 _)
 ·have hold : ∀ j t c,a8 ((s,(σ key 0).1,.mx (rows++[some (z,es)]))::i9 key (i9 k2 (i9 ky M))) j t=some c->(j=s/\t=0) \/ ∃ j0 t0 c0,a8 M j0 t0=some c0/\E6 σ s F j t=σ j0 t0/\((j0=k2/\t0=0/\j=s/\t=rows.length+1)\/(j0=key/\t0=t/\j=s)\/(j0=j/\t0=t/\j≠key/\j≠k2)):=by
   intro j t c g;rcases hg j t c g with ⟨rfl,rfl,rfl⟩|⟨rfl,rfl,rfl⟩|⟨rfl,h0,h1,g2⟩|⟨h0,h1,h2,g2⟩
   ·exact Or.inl ⟨rfl,rfl⟩
   ·exact Or.inr ⟨_,_,_,r2,by rw[DN,F1,if_pos rfl],Or.inl ⟨rfl,rfl,rfl,rfl⟩⟩
   ·obtain ⟨t',rfl⟩ : ∃ t',t=t'+1:=⟨t-1,by omega⟩
    exact Or.inr ⟨_,_,_,g2,by rw[DN,F1,if_neg (by omega)],Or.inr (Or.inl ⟨rfl,rfl,rfl⟩)⟩
   ·exact Or.inr ⟨_,_,_,g2,by rw[EO _ h0],Or.inr (Or.inr ⟨rfl,rfl,h1,h2⟩)⟩
  have gb : ∀ j0 t0 c0,a8 M j0 t0=some c0->E6 σ s F s 0≠σ j0 t0:=by
   intro j0 t0 c0 g he;rw[DN,F0]at he;have:=h.sat.old _ _ _ g;rw[<-he]at this;exact absurd this (Nat.lt_irrefl _)
  intro j t j' t' c c' g g' hj;rcases hold j t c g with ⟨rfl,rfl⟩|⟨j0,t0,c0,a1,a2,a3⟩<;>rcases hold j' t' c' g' with ⟨rfl,rfl⟩|⟨j1,t1,c1,b1,b2,b3⟩
  ·exact ⟨rfl,rfl⟩
  ·rw[b2]at hj;exact absurd hj (gb _ _ _ b1)
  ·rw[a2]at hj;exact absurd hj.symm (gb _ _ _ a1)
  ·rw[a2,b2]at hj
   obtain ⟨q1,q2⟩:=h.sat.inj _ _ _ _ _ _ a1 b1 hj;rcases a3 with ⟨x1,x2,x3,x4⟩|⟨x1,x2,x3⟩|⟨x1,x2,x3,x4⟩<;>rcases b3 with ⟨y1,y2,y3,y4⟩|⟨y1,y2,y3⟩|⟨y1,y2,y3,y4⟩
   ·exact ⟨x3.trans y3.symm,x4.trans y4.symm⟩
   ·exact absurd (y1.symm.trans (q1.symm.trans x1)) hk
   ·exact absurd (y1.symm.trans (q1.symm.trans x1)) y4
   ·exact absurd (x1.symm.trans (q1.trans y1)) hk
   ·exact ⟨x3.trans y3.symm,x2.symm.trans (q2.trans y2)⟩
   ·exact absurd (y1.symm.trans (q1.symm.trans x1)) y3
   ·exact absurd (x1.symm.trans (q1.trans y1)) x4
   ·exact absurd (x1.symm.trans (q1.trans y1)) x3
   ·exact ⟨x1.symm.trans (q1.trans y1),x2.symm.trans (q2.trans y2)⟩
 ·intro j t c g hw
  rcases hg j t c g with ⟨rfl,rfl,rfl⟩|⟨rfl,rfl,rfl⟩|⟨rfl,h0,h1,g2⟩|⟨h0,h1,h2,g2⟩
  ·rw[DN,F0];exact h.sat.low _ _ _ r0 rfl
  ·rw[DN,F1,if_pos rfl];exact h.sat.low _ _ _ r2 rfl
  ·obtain ⟨t',rfl⟩ : ∃ t',t=t'+1:=⟨t-1,by omega⟩
   rw[DN,F1,if_neg (by omega)];exact h.sat.low _ _ _ g2 hw
  ·rw[EO _ h0];exact h.sat.low _ _ _ g2 hw
theorem JW (k:IntKind) (n:Int):DB σ (.int k n) = .int k n:=rfl
theorem JU (b:Bool):DB σ (.bool b) = .bool b:=rfl
theorem JZ (l:Bool) (es:List (List AV)):DB σ (.sl l es) = .sl l es:=rfl
theorem FN (k t z o n:Nat):DB σ (.row k t z o n) = .row (σ k t).1 (σ k t).2 z o n:=rfl
theorem GY (k t i j:Nat):DB σ (.ptr k t i j) = .ptr (σ k t).1 (σ k t).2 i j:=rfl
theorem L0 (cs:List AV):DB σ (.m8 cs) = .m8 cs:=rfl
theorem H6:DB σ .nil = .nil:=rfl
theorem K1 (cs:List AV):DB σ (.agg cs) = .agg (cs.map (CZ σ)):=rfl
theorem Ak2 (v:Value):DB σ (.w7 v) = .w7 v:=rfl
theorem qF (p:Bool) (f g:Nat) (cs:List AV):DB σ (.fn p f g cs) = .fn p f g (cs.map (CZ σ)):=rfl
theorem LD (cs:List AV):DB σ (.tup cs) = .tup (cs.map (DQ σ)):=rfl
def EB.res (own:BT):EB->AV × BT
 | .val v=>(v,own)
 | .new s b f=>(f (own.c8 s),own.put s ((own s).new b))
 | .mu s b f=>(f (own.c8 s),own.put s ((own s).new b))
 | .w8 v o=>(v,o)
 | .l8 s x=>(.tup [],own.put s x)
 | .js s x v=>(v,own.put s x)
theorem lE (st:St) (d:Option Nat) (E:EB):st.app d E=⟨(st.dst d (E.res st.own).1).tm,(E.res st.own).2⟩:=by
 cases E<;>cases d<;>rfl
def DL (L:Lib) (tm:Tm) (b7:List Nat) (K:AV->Mem->Prop) (op:GO) (st:St):Prop :=
 ∃ E σ' v M',(∀ c,c4 (FH L c) b7 st.ev st.own op=some E)/\K v M'/\(E.res st.own).1=DB σ' v/\RX σ' tm M' ⟨st.tm,(E.res st.own).2⟩
theorem DL.val {L:Lib} {b7:List Nat} {K:AV->Mem->Prop} {op:GO} (h:RX σ tm M st) (v:AV) (he : ∀ c,c4 (FH L c) b7 st.ev st.own op=some (.val (DB σ v))) (hk:K v M):DL L tm b7 K op st :=
 ⟨_,σ,v,M,he,hk,rfl,h⟩
variable {L:Lib} {b7:List Nat} {K:AV->Mem->Prop}
theorem Tp {x:B8} (hr:RX σ tm M st) (h:XE L tm M b7 K (.a7 x)):DL L tm b7 K (.a7 x) st:=by
 simp only[XE]at h;obtain ⟨h1,h2⟩:=iC h;exact DL.val hr _ (λ C=>by simp only[c4,hr.ev rfl h1]) h2
theorem Tw {s z:Nat} (hr:RX σ tm M st) (h:XE L tm M b7 K (.o3 s z)):DL L tm b7 K (.o3 s z) st:=by
 simp only[XE]at h;cases ay:HM s<;>simp only[ay,cond_true,cond_false]at h;obtain ⟨k,h1,h2,h3⟩:=KL h;refine ⟨_,_,_,_,λ C=>rfl,h3,?_,hr.ax h1 h2 (.rw z []) trivial rfl (λ_=>ay)⟩;simp only[EB.res,FN,GY,DN]
theorem Tr {c a b:B8} (hr:RX σ tm M st) (h:XE L tm M b7 K (.pick c a b)):DL L tm b7 K (.pick c a b) st:=by
 simp only[XE]at h;split at h
 ·rename_i e
  obtain ⟨h1,h2⟩:=iC h;exact DL.val hr _ (λ C=>by simp only[c4,hr.ev e (by intro e;cases e),hr.ev rfl h1,JW,JU,JZ,FN,GY,L0,H6,K1,LD]) h2
 ·rename_i e
  obtain ⟨h1,h2⟩:=iC h;exact DL.val hr _ (λ C=>by simp only[c4,hr.ev e (by intro e;cases e),hr.ev rfl h1,JW,JU,JZ,FN,GY,L0,H6,K1,LD]) h2
 ·exact h.elim
theorem Aji {op:BinOp} {k k':IntKind} {a b:Int} {v:AV} (h:F4 op k a k' b=some v):DB σ v=v:=by
 cases op<;>simp only[F4]at h<;>split at h<;>first|(obtain rfl:=Option.some.inj h;rfl)|cases h
theorem AjW {k k':IntKind} (h:kq k k'=true):k=k':=by simpa [kq] using h
theorem Xu {op:BinOp} {k k':IntKind} {a b:Int} {K:AV->Prop} (h:lH op k a k' b K) : ∃ v,F4 op k a k' b=some v/\K v:=by
 have key : ∀ (p q:Prop) [Decidable p] (A B:Prop) (c:Bool),(¬ p->q)->BJ p q A B->(p/\A)\/(¬ p/\B):=by
  intro p q _ A B _ hq hc;by_cases hp:p
  ·exact Or.inl ⟨hp,hc.1 hp⟩
  ·exact Or.inr ⟨hp,hc.2 (hq hp)⟩
 cases op;all_goals try (exact h);all_goals (
  simp only[lH]at h;cases hk:kq k k'<;>simp only[hk,cond_true,cond_false]at h;obtain rfl:=AjW hk;simp only[F4,if_true])
 ·rcases key (a=b) _ _ _ true (λ e=>e) h with ⟨h1,h2⟩|⟨h1,h2⟩
  ·exact ⟨_,rfl,by rw[show (a == b)=true by simpa using h1];exact h2⟩
  ·exact ⟨_,rfl,by rw[show (a == b)=false by simpa using h1];exact h2⟩
 ·rcases key (a≠b) _ _ _ true (λ e=>by omega) h with ⟨h1,h2⟩|⟨h1,h2⟩
  ·exact ⟨_,rfl,by rw[show (a != b)=true by simpa using h1];exact h2⟩
  ·exact ⟨_,rfl,by rw[show (a != b)=false by simpa using h1];exact h2⟩
 ·rcases key (a<b) _ _ _ true (λ e=>by omega) h with ⟨h1,h2⟩|⟨h1,h2⟩
  ·exact ⟨_,rfl,by simpa [h1] using h2⟩
  ·exact ⟨_,rfl,by simpa [h1] using h2⟩
 ·rcases key (a<=b) _ _ _ true (λ e=>by omega) h with ⟨h1,h2⟩|⟨h1,h2⟩
  ·exact ⟨_,rfl,by simpa [h1] using h2⟩
  ·exact ⟨_,rfl,by simpa [h1] using h2⟩
 ·rcases key (b<a) _ _ _ true (λ e=>by omega) h with ⟨h1,h2⟩|⟨h1,h2⟩
  ·exact ⟨_,rfl,by simpa [h1] using h2⟩
  ·exact ⟨_,rfl,by simpa [h1] using h2⟩
 ·rcases key (b<=a) _ _ _ true (λ e=>by omega) h with ⟨h1,h2⟩|⟨h1,h2⟩
  ·exact ⟨_,rfl,by simpa [h1] using h2⟩
  ·exact ⟨_,rfl,by simpa [h1] using h2⟩
theorem Uh {op:BinOp} {x y:B8} (hr:RX σ tm M st) (h:XE L tm M b7 K (.bin op x y)):DL L tm b7 K (.bin op x y) st:=by
 simp only[XE]at h;split at h
 ·rename_i k a k' b e1 e2
  obtain ⟨v,hv,hk⟩:=Xu h;exact DL.val hr v (λ C=>by
   simp only[c4,hr.ev e1 (by intro e;cases e),hr.ev e2 (by intro e;cases e),JW,JU,JZ,FN,GY,L0,H6,K1,LD,hv,Option.map_some];exact congrArg some (congrArg EB.val (Aji (σ:=σ) hv).symm)) hk
 ·exact h.elim
theorem Ug {ne:Bool} {x y:B8} (hr:RX σ tm M st) (h:XE L tm M b7 K (.beq ne x y)):DL L tm b7 K (.beq ne x y) st:=by
 simp only[XE]at h;split at h
 ·rename_i a b e1 e2
  rw[U8]at h;exact DL.val hr _ (λ C=>by
   simp only[c4,hr.ev e1 (by intro e;cases e),hr.ev e2 (by intro e;cases e),JW,JU,JZ,FN,GY,L0,H6,K1,LD];cases ne<;>rfl) h
 ·exact h.elim
theorem oH : ∀ {cs:List AV} {a:List Int},KV cs=some a->cs.map (CZ σ)=cs
 | [],_,_=>rfl
 | c::r,a,h=>by
  cases c with
  | int k n =>
   cases k<;>simp only[KV]at h<;>first|cases h|skip
   cases hr:KV r with
   | none=>rw[hr]at h;cases h
   | some b=>rw[List.map_cons,oH hr];rfl
  | _=>simp only[KV]at h;cases h
theorem Tz {ne:Bool} {n:Nat} {x y:B8} (hr:RX σ tm M st) (h:XE L tm M b7 K (.jt ne n x y)):DL L tm b7 K (.jt ne n x y) st:=by
 simp only[XE]at h;split at h
 ·rename_i cs ds e1 e2
  obtain ⟨a,b,h1,h2,h3,h4,h⟩:=h;rw[U8]at h;exact DL.val hr _ (λ C=>by
   simp only[c4,hr.ev e1 (by intro e;cases e),hr.ev e2 (by intro e;cases e),K1,oH h1,oH h2,h1,h2];rw[if_pos ⟨h3,h4⟩];cases ne<;>rfl) h
 ·exact h.elim
theorem Tv {op:UnOp} {x:B8} (hr:RX σ tm M st) (h:XE L tm M b7 K (.un op x)):DL L tm b7 K (.un op x) st:=by
 simp only[XE]at h;split at h
 ·rename_i k n e1
  obtain ⟨v,hv,hk⟩:=h;refine DL.val hr v (λ C => ?_) hk;simp only[c4,hr.ev e1 (by intro e;cases e),JW,JU,JZ,FN,GY,L0,H6,K1,LD,hv,Option.map_some];cases op<;>simp only[W3,Option.some.injEq,reduceCtorEq]at hv<;>subst hv<;>rfl
 ·rename_i b e1
  split at h
  ·rw[U8]at h
   exact DL.val hr _ (λ C=>by simp only[c4,hr.ev e1 (by intro e;cases e),JW,JU,JZ,FN,GY,L0,H6,K1,LD,W3,Option.map_some]) h
  ·exact h.elim
 ·exact h.elim
theorem Um {k:IntKind} {x:B8} (hr:RX σ tm M st) (h:XE L tm M b7 K (.conv k x)):DL L tm b7 K (.conv k x) st:=by
 simp only[XE]at h;split at h
 ·rename_i k' n e1
  exact DL.val hr _ (λ C=>by simp only[c4,hr.ev e1 (by intro e;cases e),JW,JU,JZ,FN,GY,L0,H6,K1,LD]) h
 ·exact h.elim
theorem Ui {s:Nat} {x:B8} (hr:RX σ tm M st) (h:XE L tm M b7 K (.box s x)):DL L tm b7 K (.box s x) st:=by
 simp only[XE]at h;obtain ⟨h0,cs,hc,h⟩:=iB h;obtain ⟨k,h1,h2,h3⟩:=KL h;refine ⟨.new s (CS.blk σ k (.bx cs)) (λ t => .ptr s t 0 0),_,_,_,λ C => ?_,h3,?_,hr.ax h1 h2 (.bx cs) trivial (Kp (zA h2 x) hc) (λ h=>nomatch h)⟩
 ·simp only[c4,hr.ev rfl h0,TW hc,List.length_map,CS.blk]
 ·simp only[EB.res,FN,GY,DN]
theorem Ua {s:Nat} {z:List AV} (hr:RX σ tm M st) (h:XE L tm M b7 K (.alloc s z)):DL L tm b7 K (.alloc s z) st:=by
 simp only[XE]at h;cases hd:G1 z<;>simp only[hd,cond_true,cond_false]at h;obtain ⟨k,h1,h2,h3⟩:=KL h;refine ⟨.new s (CS.blk σ k (.bx z)) (λ t => .ptr s t 0 0),_,_,_,λ C => ?_,h3,?_,hr.ax h1 h2 (.bx z) trivial (mC hd) (λ h=>nomatch h)⟩
 ·simp only[c4,CS.blk,MC hd]
 ·simp only[EB.res,FN,GY,DN]
theorem dM {cs ds:List AV} {off n:Nat} (h:part cs off n=some ds):part (cs.map (CZ σ)) off n=some (ds.map (CZ σ)):=by
 simp only[part]at h ⊢;split at h
 ·rename_i hl
  rw[if_pos (by simpa using hl)];obtain rfl:=Option.some.inj h;rw[List.map_take,List.map_drop]
 ·cases h
theorem zC {v:AV} {K:AV->Prop} (h:fF v K):v ≠ .any/\DB σ v=CZ σ v/\K v:=by
 cases v<;>simp only[fF]at h<;>first|exact h.elim|exact ⟨(by intro e;cases e),rfl,h⟩
theorem VJ (σ:IJ) {agg:Bool} {ds:List AV} {K:AV->Prop} (h:iv agg ds K) : ∃ v,MI agg (ds.map (CZ σ))=some (DB σ v)/\K v:=by
 cases agg
 ·simp only[iv]at h
  split at h
  ·rename_i c
   obtain ⟨_,h1,h2⟩:=zC (σ:=σ) h;exact ⟨c,by rw[h1];rfl,h2⟩
  ·exact h.elim
 ·exact ⟨.agg ds,rfl,h⟩
theorem Mr {cs vs:List AV} {j:Nat}:(splice cs j vs).map (CZ σ)=splice (cs.map (CZ σ)) j (vs.map (CZ σ)):=by
 simp only[splice,List.map_append,List.map_take,List.map_drop,List.length_map]
theorem zK (hr:RX σ tm M st) : ∀ {ps:List (Nat × Nat × B8)} {cells:List AV} {K:List AV->Prop},nU tm ps cells K -> ∃ cs,fill (cells.map (CZ σ)) (ps.map λ p=>(p.1,p.2.1,st.ev p.2.2))=some (cs.map (CZ σ))/\K cs
 | [],cells,K,h=>⟨cells,rfl,h⟩
 | p::r,cells,K,h=>by
  obtain ⟨h0,vs,hc,h⟩:=iB (show fC (ex tm p.2.2) λ vs=>bif Nat.beq vs.length p.2.1 then bif Nat.ble (p.1+p.2.1) cells.length then fL (splice cells p.1 vs) λ cells=>nU tm r cells K else False else False from h);cases hz:Nat.beq vs.length p.2.1<;>simp only[hz,cond_true,cond_false]at h;have hl:Nat.ble (p.1+p.2.1) cells.length=true:=by
   cases hl:Nat.ble (p.1+p.2.1) cells.length
   ·rw[hl]at h;exact h.elim
   ·rfl
  rw[hl]at h;simp only[cond_true,J8]at h;obtain ⟨cs,h1,h2⟩:=zK hr h;refine ⟨cs,?_,h2⟩;simp only[List.map_cons,fill,hr.ev rfl h0,TW hc,List.length_map];rw[if_pos ⟨DI.1 hz,Nat.le_of_ble_eq_true hl⟩,<-Mr];exact h1
theorem Uk {z:List AV} {ps:List (Nat × Nat × B8)} (hr:RX σ tm M st) (h:XE L tm M b7 K (.build z ps)):DL L tm b7 K (.build z ps) st:=by
 simp only[XE]at h;cases hd:G1 z<;>simp only[hd,cond_true,cond_false]at h;obtain ⟨cs,h1,h2⟩:=zK hr h;refine DL.val hr (.agg cs) (λ C => ?_) h2;rw[MC hd]at h1;simp only[c4,h1];rfl
theorem yZ : ∀ l:List B8,WD tm l=l.map (ex tm)
 | []=>rfl
 | x::r=>by rw[WD,yZ r];rfl
theorem wB : ∀ {es:List (List AV)},cB es=true -> ∀ e∈es,G1 e=true
 | e0::r,h,e,he=>by
  simp only[cB]at h;cases h1:G1 e0<;>simp only[h1,cond_true,cond_false]at h
  ·cases h
  ·rcases List.mem_cons.1 he with rfl|he
   ·exact h1
   ·exact wB h e he
theorem Vu {es:List (List AV)} (h : ∀ e∈es,G1 e=true):(es.map λ cs=>cs.map (CZ σ))=es:=by
 conv=>rhs;rw[<-List.map_id es]
 exact List.map_congr_left λ e he=>MC (h e he)
theorem Aj1 {es:List (List AV)} {K:Nat->Prop} (h:oO es K):K es.length:=by
 unfold oO at h;split at h<;>exact h
theorem uC (hr:RX σ tm M st) {z:Nat} : ∀ {l:List B8} {K:List (List AV)->Prop},lK tm z l K -> ∃ es,l.mapM (λ x=>cellsOf (st.ev x))=some (es.map λ cs=>cs.map (CZ σ))/\(∀ e∈es,e.length=z)/\(∀ k,LC k tm=false->WP k es=false)/\K es
 | [],K,h=>⟨[],rfl,(λ e he=>by cases he),λ_ _=>rfl,h⟩
 | x::r,K,h=>by
  obtain ⟨h0,cs,hc,h⟩:=iB (show fC (ex tm x) λ cs=>bif Nat.beq cs.length z then lK tm z r λ es=>K (cs::es) else False from h);cases hz:Nat.beq cs.length z<;>simp only[hz,cond_true,cond_false]at h;obtain ⟨es,h1,h2,h4,h3⟩:=uC hr h;refine ⟨cs::es,?_,λ e he => ?_,λ k hk => ?_,h3⟩
  ·rw[List.mapM_cons,h1,hr.ev rfl h0,TW hc];rfl
  ·rcases List.mem_cons.1 he with rfl|he
   ·exact DI.1 hz
   ·exact h2 e he
  ·simp only[WP,Kp (zA hk x) hc,cond_false,h4 k hk]
theorem evL (hr:RX σ tm M st) {xs:List B8} (h : ∀ v∈WD tm xs,v ≠ .any):xs.map st.ev=(WD tm xs).map (DB σ):=by
 rw[yZ]at h ⊢;rw[List.map_map];exact List.map_congr_left λ x hx=>hr.ev rfl (h _ (List.mem_map_of_mem hx))
theorem Uj {s z:Nat} {ps:List B8} (hr:RX σ tm M st) (h:XE L tm M b7 K (.b8 s z ps)):DL L tm b7 K (.b8 s z ps) st:=by
 simp only[XE]at h;cases ay:HM s<;>simp only[ay,cond_true,cond_false]at h;obtain ⟨es,g1,g2,g3,h⟩:=uC hr h;obtain ⟨k,h1,h2,h3⟩:=KL (Aj1 h);have key : ∀ c:CS,c.flat->LB k c=false->c.blk σ k=⟨z,es.map λ cs=>cs.map (CZ σ)⟩->K (.row k 0 z 0 es.length) ((k,s,c)::M)->DL L tm b7 K (.b8 s z ps) st:=by
  intro c hf hc hb hk;refine ⟨.new s (c.blk σ k) (λ t => .row s t z 0 es.length),_,_,_,λ C => ?_,hk,?_,hr.ax h1 h2 c hf hc (λ_=>ay)⟩
  ·simp only[c4,g1,hb]
   rw[if_pos (λ e he=>by obtain ⟨e',di,rfl⟩:=List.mem_map.1 he;simpa using g2 e' di)];simp only[List.length_map]
  ·simp only[EB.res,FN,DN]
 cases hd:cB es<;>simp only[hd,cond_true,cond_false]at h3
 ·exact key (.bs z es) trivial (g3 k h2) rfl h3
 ·exact key (.rw z es) trivial rfl (by simp only[CS.blk];rw[Vu (wB hd)]) h3
theorem Up {x:B8} {off:Nat} (hr:RX σ tm M st) (h:XE L tm M b7 K (.a6 x off)):DL L tm b7 K (.a6 x off) st:=by
 simp only[XE]at h;split at h
 ·rename_i key t i j e
  exact DL.val hr _ (λ C=>by simp only[c4,hr.ev e (by intro e;cases e),JW,JU,JZ,FN,GY,L0,H6,K1,LD]) h
 ·rename_i cs e
  rw[J8]at h;exact DL.val hr _ (λ C=>by simp only[c4,hr.ev e (by intro e;cases e),JW,JU,JZ,FN,GY,L0,H6,K1,LD]) h
 ·exact h.elim
theorem Uq {x:B8} {off n:Nat} {agg:Bool} (hr:RX σ tm M st) (h:XE L tm M b7 K (.gj x off n agg)):DL L tm b7 K (.gj x off n agg) st:=by
 simp only[XE]at h;split at h
 ·rename_i cs e
  split at h
  ·rename_i ds hp
   rw[J8]at h;obtain ⟨v,h1,h2⟩:=VJ σ h;exact DL.val hr v (λ C=>by simp only[c4,hr.ev e (by intro e;cases e),K1,dM hp,h1,Option.map_some]) h2
  ·exact h.elim
 ·exact h.elim
theorem Us {arr:Option Nat} {z:Nat} {x i:B8} (hr:RX σ tm M st) (h:XE L tm M b7 K (.a4 arr z x i)):DL L tm b7 K (.a4 arr z x i) st:=by
 simp only[XE]at h;split at h
 ·rename_i kd n e1
  split at h
  ·rename_i len key t i' j e2
   obtain ⟨h1,h2⟩:=h;exact DL.val hr _ (λ C=>by simp only[c4,hr.ev e1 (by intro e;cases e),hr.ev e2 (by intro e;cases e),JW,JU,JZ,FN,GY,L0,H6,K1,LD];rw[if_pos h1]) h2
  ·rename_i len cs e2
   obtain ⟨h1,h2⟩:=h;rw[J8]at h2;exact DL.val hr _ (λ C=>by simp only[c4,hr.ev e1 (by intro e;cases e),hr.ev e2 (by intro e;cases e),JW,JU,JZ,FN,GY,L0,H6,K1,LD];rw[if_pos h1]) h2
  ·rename_i key t z' off len e2
   cases hz:Nat.beq z' z<;>simp only[hz,cond_true,cond_false]at h;obtain ⟨h1,h2⟩:=h;exact DL.val hr _ (λ C=>by simp only[c4,hr.ev e1 (by intro e;cases e),hr.ev e2 (by intro e;cases e),JW,JU,JZ,FN,GY,L0,H6,K1,LD];rw[if_pos ⟨h1.1,h1.2,DI.1 hz⟩]) h2
  ·rename_i q es e2
   obtain ⟨h1,cs,h2,h3,h4⟩:=h;exact DL.val hr _ (λ C=>by simp only[c4,hr.ev e1 (by intro e;cases e),hr.ev e2 (by intro e;cases e),JW,JU,JZ,FN,GY,L0,H6,K1,LD,h2];rw[if_pos h1,if_pos h3]) h4
  ·exact h.elim
 ·exact h.elim
theorem Ut {len z:Nat} {agg:Bool} {x i:B8} (hr:RX σ tm M st) (h:XE L tm M b7 K (.idx len z agg x i)):DL L tm b7 K (.idx len z agg x i) st:=by
 simp only[XE]at h;split at h
 ·rename_i kd n cs e1 e2
  obtain ⟨h0,h⟩:=h;split at h
  ·rename_i ds hp
   rw[J8]at h;obtain ⟨v,h1,h2⟩:=VJ σ h;exact DL.val hr v (λ C=>by simp only[c4,hr.ev e1 (by intro e;cases e),hr.ev e2 (by intro e;cases e),JW,JU,JZ,FN,GY,L0,H6,K1,LD,dM hp,h1,Option.map_some];rw[if_pos h0]) h2
  ·exact h.elim
 ·exact h.elim
theorem aA {s:Nat} {own:BT} : ∀ {b7:List Nat},WN s b7=true->own.g9 b7 s=own s
 | [],_=>rfl
 | b::r,h=>by
  have hm:VF s (b::r)=false:=by simpa [WN] using h
  have : ∀ l:List Nat,VF s l=false->own.g9 l s=own s:=by
   intro l;induction l with
   | nil=>intro _;rfl
   | cons b r ih =>
    intro h;simp only[VF]at h;cases hb:Nat.beq s b<;>simp only[hb,cond_true,cond_false]at h
    ·simp only[BT.g9]
     rw[if_neg (IG.1 hb)];exact ih h
    ·cases h
  exact this _ hm
theorem pE {s:Nat} {own:BT} (hs:HM s=true) : ∀ {b7:List Nat},YG b7=true->own.g9 b7 s=own s
 | [],_=>rfl
 | b::r,h=>by
  simp only[YG]at h;cases hb:HM b<;>simp only[hb,cond_true,cond_false]at h
  ·have hne:s≠b:=λ e=>by rw[e,hb]at hs;cases hs
   show (if s=b then _ else own.g9 r s)=own s;rw[if_neg hne];exact pE hs h
  ·cases h
theorem Uv {agg:Bool} {n:Nat} {x:B8} (hr:RX σ tm M st) (h:XE L tm M b7 K (.ld agg n x)):DL L tm b7 K (.ld agg n x) st:=by
 simp only[XE]at h;split at h
 ·rename_i key t i j e
  split at h
  ·rename_i s c hm
   have hs:=hr.sat.site _ _ _ hm;split at h
   ·cases hb:WN s b7<;>simp only[hb,cond_true,cond_false]at h
    have o8:=hr.sat.blk _ _ _ (GN hm);rw[hs]at o8;split at h
    ·rename_i cs
     cases hi:Nat.beq i 0<;>simp only[hi,cond_true,cond_false]at h;obtain rfl:=DI.1 hi;split at h
     ·rename_i ds hp
      rw[J8]at h;obtain ⟨v,h1,h2⟩:=VJ σ h;exact DL.val hr v (λ C=>by
       simp only[c4,hr.ev e (by intro e;cases e),GY,BT.iq,BT.get,hs];rw[aA hb,o8];simp only[CS.blk,List.getElem?_cons_zero,dM hp,h1,Option.map_some]) h2
     ·exact h.elim
    ·rename_i z es
     obtain ⟨cs,ds,g1,g2,h⟩:=h;rw[J8]at h;cases hd:G1 ds<;>simp only[hd,cond_true,cond_false]at h;obtain ⟨v,h1,h2⟩:=VJ σ h;rw[MC hd]at h1;exact DL.val hr v (λ C=>by
      simp only[c4,hr.ev e (by intro e;cases e),GY,BT.iq,BT.get,hs];rw[aA hb,o8];simp only[CS.blk,g1,g2,h1,Option.map_some]) h2
    ·rename_i z es
     split at h
     ·rename_i cs g1
      split at h
      ·rename_i ds hp
       rw[J8]at h;obtain ⟨v,h1,h2⟩:=VJ σ h;exact DL.val hr v (λ C=>by
        simp only[c4,hr.ev e (by intro e;cases e),GY,BT.iq,BT.get,hs];rw[aA hb,o8];simp only[CS.blk,List.getElem?_map,g1,Option.map_some,dM hp,h1]) h2
      ·exact h.elim
     ·exact h.elim
    ·rename_i rows
     cases hj:Nat.beq j 0<;>simp only[hj,cond_true,cond_false]at h;cases hn:Nat.beq n 1<;>simp only[hn,cond_true,cond_false]at h;obtain rfl:=DI.1 hj;obtain rfl:=DI.1 hn;obtain ⟨r,g1,h⟩:=h;have fin : ∀ c:AV,(DZ σ key 0 rows)[i]? = some [CZ σ c]->iv agg [c] (λ v=>K v M)->DL L tm b7 K (.ld agg 1 x) st:=by
      intro c hc h;obtain ⟨v,h1,h2⟩:=VJ σ h;have hp:part [CZ σ c] 0 1=some [CZ σ c]:=by simp [part]
      exact DL.val hr v (λ C=>by
       simp only[c4,hr.ev e (by intro e;cases e),GY,BT.iq,BT.get,hs];rw[aA hb,o8];simp only[CS.blk,hc,hp];simp only[List.map_cons,List.map_nil]at h1;simp only[h1,Option.map_some]) h2
     split at h
     ·rename_i z es
      exact fin _ (by rw[H2,g1];simp [CZ]) h
     ·exact fin _ (by rw[H2,g1];simp [CZ]) h
    ·exact h.elim
    ·exact h.elim
   ·rename_i i'
    split at h
    ·rename_i rows
     obtain ⟨z,es,g0,cs,ds,g1,g2,h⟩:=h;rw[J8]at h;cases hd:G1 ds<;>simp only[hd,cond_true,cond_false]at h;obtain ⟨v,h1,h2⟩:=VJ σ h;rw[MC hd]at h1;have o8:=hr.sat.blk key (i'+1) (.rw z es) (by simp [a8,hm,g0]);exact DL.val hr v (λ C=>by
      simp only[c4,hr.ev e (by intro e;cases e),GY,BT.iq,BT.get,BT.g9];rw[o8];simp only[CS.blk,g1,g2,h1,Option.map_some]) h2
    ·rename_i rows b r
     cases hb:YG (b::r)<;>simp only[hb,cond_true,cond_false]at h;obtain ⟨z,es,g0,cs,ds,g1,g2,h⟩:=h;rw[J8]at h;cases hd:G1 ds<;>simp only[hd,cond_true,cond_false]at h;obtain ⟨v,h1,h2⟩:=VJ σ h;rw[MC hd]at h1;have g':a8 M key (i'+1)=some (.rw z es):=by simp [a8,hm,g0]
     have o8:=hr.sat.blk key (i'+1) (.rw z es) g';have ay:=hr.sat.low key (i'+1) _ g' rfl;exact DL.val hr v (λ C=>by
      simp only[c4,hr.ev e (by intro e;cases e),GY,BT.iq,BT.get];rw[pE ay hb,o8];simp only[CS.blk,g1,g2,h1,Option.map_some]) h2
    ·exact h.elim
  ·exact h.elim
 ·rename_i cs e
  split at h
  ·rename_i ds hp
   rw[J8]at h;cases hd:G1 ds<;>simp only[hd,cond_true,cond_false]at h;obtain ⟨v,h1,h2⟩:=VJ σ h;rw[MC hd]at h1;exact DL.val hr v (λ C=>by simp only[c4,hr.ev e (by intro e;cases e),L0,hp,h1,Option.map_some]) h2
  ·exact h.elim
 ·exact h.elim
theorem tJ {n:Nat} {x v:B8} (hr:RX σ tm M st) (h:XE L tm M b7 K (.st n x v)):DL L tm b7 K (.st n x v) st:=by
 simp only[XE,rH]at h;split at h
 ·rename_i key t i j e
  obtain ⟨h0,vs,hc,h5⟩:=iB h;clear h;cases hn:Nat.beq vs.length n<;>simp only[hn,cond_true,cond_false]at h5;have jd:=DI.1 hn;split at h5
  ·rename_i s c hm
   have hs:=hr.sat.site _ _ _ hm;split at h5
   ·have o8:=hr.sat.blk _ _ _ (GN hm)
    rw[hs]at o8;split at h5
    ·rename_i cs
     cases hi:Nat.beq i 0<;>simp only[hi,cond_true,cond_false]at h5;obtain rfl:=DI.1 hi;have hl:Nat.ble (j+vs.length) cs.length=true:=by
      cases hl:Nat.ble (j+vs.length) cs.length
      ·rw[hl]at h5;exact h5.elim
      ·rfl
     rw[hl]at h5;simp only[cond_true,J8]at h5;refine ⟨.w8 (.tup []) (st.own.put s ((st.own s).l8 (σ key 0).2 (some (CS.blk σ key (.bx (splice cs j vs)))))),σ,_,_,λ C => ?_,h5,rfl,hr.Ax hm trivial _ trivial (λ h=>nomatch h)⟩;simp only[c4,hr.ev e (by intro e;cases e),GY,hr.ev rfl h0,TW hc,List.length_map];rw[if_pos jd];simp only[BT.er,BT.get,hs,o8,CS.blk,List.getElem?_cons_zero,List.length_map];rw[if_pos (Nat.le_of_ble_eq_true hl)];simp only[Option.map_some,List.set_cons_zero,Mr];have:(splice cs j vs).length=cs.length:=by
      have:=Nat.le_of_ble_eq_true hl
      simp only[splice,List.length_append,List.length_take,List.length_drop];omega
     rw[this]
    ·rename_i z es
     cases hd:G1 vs<;>simp only[hd,cond_true,cond_false]at h5;obtain ⟨cs,g1,g2,h5⟩:=h5;refine ⟨.w8 (.tup []) (st.own.put s ((st.own s).l8 (σ key 0).2 (some (CS.blk σ key (.rw z (es.set i (splice cs j vs))))))),σ,_,_,λ C => ?_,h5,rfl,hr.Ax hm trivial _ trivial (λ_=>rfl)⟩;simp only[c4,hr.ev e (by intro e;cases e),GY,hr.ev rfl h0,TW hc,MC hd];rw[if_pos jd];simp only[BT.er,BT.get,hs,o8,CS.blk,g1];rw[if_pos g2];rfl
    ·exact h5.elim
    ·rename_i rows
     split at h5
     ·rename_i o5 z m
      cases hkk:Nat.beq key o5<;>simp only[hkk,cond_true,cond_false]at h5;cases u5:MY key tm<;>simp only[u5,cond_true,cond_false]at h5;cases hcm:LK key M<;>simp only[hcm,cond_true,cond_false]at h5;cases hj:Nat.beq j 0<;>simp only[hj,cond_true,cond_false]at h5;obtain rfl:=DI.1 hj;split at h5
      ·rename_i s2 z' es hm2
       cases hz:Nat.beq z z'<;>simp only[hz,cond_true,cond_false]at h5;obtain rfl:=DI.1 hz;rw[N8]at h5;obtain ⟨rfl,hi,h5⟩:=h5;have hlen:(DZ σ key 0 rows)[i]? = some ((DZ σ key 0 rows)[i]'(by rw[H3];exact hi)):=zE _;have bh:((DZ σ key 0 rows)[i]'(by rw[H3];exact hi)).length=1:=by
        have:=H2 (σ:=σ) (k:=key) rows 0 i
        rw[hlen,zE hi]at this;simp only[Option.map_some,Option.some.injEq]at this;rw[this];split<;>rfl
       refine ⟨.w8 (.tup []) (st.own.put s ((st.own s).l8 (σ key 0).2 (some ⟨1,(DZ σ key 0 rows).set i [.row (σ o5 0).1 (σ o5 0).2 z 0 es.length]⟩))),_,_,_,λ C => ?_,h5,rfl,hr.ry hm (Or.inl rfl) hm2 (IG.1 hkk) u5 hcm hi⟩;simp only[c4,hr.ev e (by intro e;cases e),GY,hr.ev rfl h0,TW hc,List.length_map];rw[if_pos jd];simp only[BT.er,BT.get,hs,o8,CS.blk,hlen,List.map_cons,List.map_nil,List.length_cons,List.length_nil,CZ];rw[if_pos (by omega)];simp only[Option.map_some];have wc:splice ((DZ σ key 0 rows)[i]'(by rw[H3];exact hi)) 0 [.row (σ o5 0).1 (σ o5 0).2 z 0 es.length]=[.row (σ o5 0).1 (σ o5 0).2 z 0 es.length]:=by
        simp only[splice,List.take_zero,List.nil_append,List.length_cons,List.length_nil,Nat.zero_add];rw[List.drop_of_length_le (by omega)];rfl
       rw[wc]
      ·exact h5.elim
     ·rename_i o5 t2 z m
      cases hkk:Nat.beq key o5<;>simp only[hkk,cond_true,cond_false]at h5;cases hj:Nat.beq j 0<;>simp only[hj,cond_true,cond_false]at h5;obtain rfl:=DI.1 hj;obtain rfl:=DI.1 hkk;obtain ⟨z',es,g0,h5⟩:=h5;cases hz:Nat.beq z z'<;>simp only[hz,cond_true,cond_false]at h5;obtain rfl:=DI.1 hz;obtain ⟨⟨rfl,hi⟩,h5⟩:=h5;have m7:CS.blk σ key (.vw ((List.range rows.length).set i t2) rows)=⟨1,(DZ σ key 0 rows).set i [.row (σ key (t2+1)).1 (σ key (t2+1)).2 z 0 es.length]⟩:=by
       simp only[CS.blk];congr 1;apply List.ext_getElem?;intro p;rw[List.getElem?_map];by_cases hp:i=p
       ·subst hp
        rw[List.getElem?_set_self (by rw[List.length_range];exact hi),List.getElem?_set_self (by rw[H3];exact hi),Option.map_some,H2,g0];simp
       ·rw[List.getElem?_set_ne hp,List.getElem?_set_ne hp,H2]
        by_cases tc:p<rows.length
        ·rw[List.getElem?_range tc,Option.map_some,H2,zE tc,Option.map_some,Option.getD_some]
        ·rw[List.getElem?_eq_none (by rw[List.length_range];omega),List.getElem?_eq_none (by omega)];rfl
      have hv:=hr.view (w:=(List.range rows.length).set i t2) hm (Or.inl rfl);have hlen:(DZ σ key 0 rows)[i]? = some ((DZ σ key 0 rows)[i]'(by rw[H3];exact hi)):=zE _;have bh:((DZ σ key 0 rows)[i]'(by rw[H3];exact hi)).length=1:=by
       have:=H2 (σ:=σ) (k:=key) rows 0 i
       rw[hlen,zE hi]at this;simp only[Option.map_some,Option.some.injEq]at this;rw[this];split<;>rfl
      refine ⟨.w8 (.tup []) (st.own.put s ((st.own s).l8 (σ key 0).2 (some (CS.blk σ key (.vw ((List.range rows.length).set i t2) rows))))),_,_,_,λ C => ?_,h5,rfl,hv⟩;rw[m7];simp only[c4,hr.ev e (by intro e;cases e),GY,hr.ev rfl h0,TW hc,List.length_map];rw[if_pos jd];simp only[BT.er,BT.get,hs,o8,CS.blk,hlen,List.map_cons,List.map_nil,List.length_cons,List.length_nil,CZ];rw[if_pos (by omega)];simp only[Option.map_some];have wc:splice ((DZ σ key 0 rows)[i]'(by rw[H3];exact hi)) 0 [.row (σ key (t2+1)).1 (σ key (t2+1)).2 z 0 es.length]=[.row (σ key (t2+1)).1 (σ key (t2+1)).2 z 0 es.length]:=by
       simp only[splice,List.take_zero,List.nil_append,List.length_cons,List.length_nil,Nat.zero_add];rw[List.drop_of_length_le (by omega)];rfl
      rw[wc]
     ·exact h5.elim
    ·rename_i i0 v0 rows
     split at h5
     ·rename_i o5 z m
      cases hkk:Nat.beq key o5<;>simp only[hkk,cond_true,cond_false]at h5;cases u5:MY key tm<;>simp only[u5,cond_true,cond_false]at h5;cases hcm:LK key M<;>simp only[hcm,cond_true,cond_false]at h5;cases hj:Nat.beq j 0<;>simp only[hj,cond_true,cond_false]at h5;obtain rfl:=DI.1 hj;split at h5
      ·rename_i s2 z' es hm2
       cases hz:Nat.beq z z'<;>simp only[hz,cond_true,cond_false]at h5;obtain rfl:=DI.1 hz;rw[N8]at h5;obtain ⟨⟨rfl,rfl⟩,hi,h5⟩:=h5;refine ⟨.w8 (.tup []) (st.own.put s ((st.own s).l8 (σ key 0).2 (some ⟨1,(DZ σ key 0 rows).set i [.row (σ o5 0).1 (σ o5 0).2 z 0 es.length]⟩))),_,_,_,λ C => ?_,h5,rfl,hr.ry hm (Or.inr ⟨v0,rfl⟩) hm2 (IG.1 hkk) u5 hcm hi⟩;simp only[c4,hr.ev e (by intro e;cases e),GY,hr.ev rfl h0,TW hc,List.length_map];rw[if_pos jd];simp only[BT.er,BT.get,hs,o8,CS.blk,List.getElem?_set_self (show i<(DZ σ key 0 rows).length by rw[H3];exact hi),List.map_cons,List.map_nil,List.length_cons,List.length_nil,CZ];rw[if_pos (by omega)];simp only[Option.map_some,List.set_set];rfl
      ·exact h5.elim
     ·exact h5.elim
    ·rename_i w rows
     split at h5
     ·rename_i o5 t2 z m
      cases hkk:Nat.beq key o5<;>simp only[hkk,cond_true,cond_false]at h5;cases hj:Nat.beq j 0<;>simp only[hj,cond_true,cond_false]at h5;obtain rfl:=DI.1 hj;obtain rfl:=DI.1 hkk;obtain ⟨z',es,g0,h5⟩:=h5;cases hz:Nat.beq z z'<;>simp only[hz,cond_true,cond_false]at h5;obtain rfl:=DI.1 hz;obtain ⟨⟨rfl,hi,hwr⟩,h5⟩:=h5;have m7:CS.blk σ key (.vw (w.set i t2) rows)=⟨1,(w.map λ t=>((DZ σ key 0 rows)[t]?).getD []).set i [.row (σ key (t2+1)).1 (σ key (t2+1)).2 z 0 es.length]⟩:=by
       simp only[CS.blk];congr 1;apply List.ext_getElem?;intro p;rw[List.getElem?_map];by_cases hp:i=p
       ·subst hp
        rw[List.getElem?_set_self hi,List.getElem?_set_self (by rw[List.length_map];exact hi),Option.map_some,H2,g0];simp
       ·rw[List.getElem?_set_ne hp,List.getElem?_set_ne hp,List.getElem?_map]
      have hv:=hr.view (w:=w.set i t2) hm (Or.inr ⟨w,rfl⟩);have hlen:(w.map λ t=>((DZ σ key 0 rows)[t]?).getD [])[i]? = some ((w.map λ t=>((DZ σ key 0 rows)[t]?).getD [])[i]'(by rw[List.length_map];exact hi)):=zE _;have bh:((w.map λ t=>((DZ σ key 0 rows)[t]?).getD [])[i]'(by rw[List.length_map];exact hi)).length=1:=by
       rw[List.getElem_map];have e9:=hwr w[i] (List.getElem_mem hi);rw[H2,zE e9];simp only[Option.map_some,Option.getD_some];split<;>rfl
      refine ⟨.w8 (.tup []) (st.own.put s ((st.own s).l8 (σ key 0).2 (some (CS.blk σ key (.vw (w.set i t2) rows))))),_,_,_,λ C => ?_,h5,rfl,hv⟩;rw[m7];simp only[c4,hr.ev e (by intro e;cases e),GY,hr.ev rfl h0,TW hc,List.length_map];rw[if_pos jd];simp only[BT.er,BT.get,hs,o8,CS.blk,hlen,List.map_cons,List.map_nil,List.length_cons,List.length_nil,CZ];rw[if_pos (by omega)];simp only[Option.map_some];have wc:splice ((w.map λ t=>((DZ σ key 0 rows)[t]?).getD [])[i]'(by rw[List.length_map];exact hi)) 0 [.row (σ key (t2+1)).1 (σ key (t2+1)).2 z 0 es.length]=[.row (σ key (t2+1)).1 (σ key (t2+1)).2 z 0 es.length]:=by
       simp only[splice,List.take_zero,List.nil_append,List.length_cons,List.length_nil,Nat.zero_add];rw[List.drop_of_length_le (by omega)];rfl
      rw[wc]
     ·exact h5.elim
   ·rename_i i'
    split at h5
    ·rename_i rows
     cases hd:G1 vs<;>simp only[hd,cond_true,cond_false]at h5;obtain ⟨z,es,g0,cs,g1,g2,g3,h5⟩:=h5;have o8:=hr.sat.blk key (i'+1) (.rw z es) (by simp [a8,hm,g0]);refine ⟨.w8 (.tup []) (st.own.put (σ key (i'+1)).1 ((st.own (σ key (i'+1)).1).l8 (σ key (i'+1)).2 (some ⟨z,es.set i (splice cs j vs)⟩))),σ,_,_,λ C => ?_,h5,rfl,hr.Hv hm g0 g3⟩;simp only[c4,hr.ev e (by intro e;cases e),GY,hr.ev rfl h0,TW hc,MC hd];rw[if_pos jd];simp only[BT.er,BT.get,o8,CS.blk,g1];rw[if_pos g2];rfl
    ·exact h5.elim
  ·exact h5.elim
 ·exact h.elim
theorem Ux {s z bytes:Nat} {zero:List AV} {a c:B8} (hr:RX σ tm M st) (h:XE L tm M b7 K (.mk s z bytes zero a c)):DL L tm b7 K (.mk s z bytes zero a c) st:=by
 simp only[XE]at h;split at h
 ·rename_i k1 p k2 q e1 e2
  cases hz:Nat.beq zero.length z<;>simp only[hz,cond_true,cond_false]at h;cases hd:G1 zero<;>simp only[hd,cond_true,cond_false]at h;split at h
  ·cases ay:HM s<;>simp only[ay,cond_true,cond_false]at h
   obtain ⟨⟨g1,g2,g3,g4⟩,h⟩:=h;obtain ⟨k,h1,h2,h3⟩:=KL h;have hfl:CS.flat (.mx (List.replicate p.toNat none)):=by
    intro i x hx;have:=List.getElem?_replicate (n:=p.toNat) (a:=(none:Option (Nat × List (List AV)))) (i:=i);rw[this]at hx;split at hx<;>cases hx
   have hz1:z=1:=(DI.1 hz).symm;have hbl:CS.blk σ k (.mx (List.replicate p.toNat none))=⟨z,List.replicate p.toNat [.nil]⟩:=by
    simp only[CS.blk,hz1];congr 1;have : ∀ (n i:Nat),DZ σ k i (List.replicate n none)=List.replicate n [AV.nil]:=by
     intro n;induction n with
     | zero=>intro i;rfl
     | succ n ih=>intro i;rw[List.replicate_succ,List.replicate_succ,DZ,ih]
    exact this _ _
   refine ⟨.new s (CS.blk σ k (.mx (List.replicate p.toNat none))) (λ t => .row s t z 0 p.toNat),_,_,_,λ C => ?_,h3,?_,hr.ax h1 h2 (.mx _) hfl rfl (λ_=>ay)⟩
   ·simp only[c4,hr.ev e1 (by intro e;cases e),hr.ev e2 (by intro e;cases e),JW,hbl]
    rw[if_pos ⟨g1,g2,g3,g4,DI.1 hz⟩]
   ·simp only[EB.res,FN,DN]
  ·cases ay:HM s<;>simp only[ay,cond_true,cond_false]at h
   obtain ⟨⟨g1,g2,g3,g4⟩,h⟩:=h;obtain ⟨k,h1,h2,h3⟩:=KL h;refine ⟨.new s ⟨z,List.replicate p.toNat zero⟩ (λ t => .row s t z 0 p.toNat),_,_,_,λ C => ?_,h3,?_,hr.ax h1 h2 (.rw z _) trivial rfl (λ_=>ay)⟩
   ·simp only[c4,hr.ev e1 (by intro e;cases e),hr.ev e2 (by intro e;cases e),JW]
    rw[if_pos ⟨g1,g2,g3,g4,DI.1 hz⟩]
   ·simp only[EB.res,FN,DN]
 ·exact h.elim
theorem zB {v:AV} {K:AV->Prop} (h:f2 v K):v ≠ .any/\DB σ v=DQ σ v/\K v:=by
 cases v<;>simp only[f2,J8]at h<;>first|exact h.elim|exact ⟨(by intro e;cases e),rfl,h⟩
theorem Ip : ∀ (vs:List AV) (i:Nat),nu vs i ≠ .any->vs[i]? = some (nu vs i)
 | [],_,h=>absurd rfl h
 | _::_,0,_=>rfl
 | _::r,i+1,h=>Ip r i h
theorem Uo {x:B8} {i:Nat} (hr:RX σ tm M st) (h:XE L tm M b7 K (.ext x i)):DL L tm b7 K (.ext x i) st:=by
 simp only[XE]at h;split at h
 ·rename_i vs e
  obtain ⟨h1,h2,h3⟩:=zB (σ:=σ) h;refine DL.val hr _ (λ C => ?_) h3;simp only[c4,hr.ev e (by intro e;cases e),LD,List.getElem?_map,Ip vs i h1,Option.map_some,h2]
 ·exact h.elim
theorem Uw {x:B8} (hr:RX σ tm M st) (h:XE L tm M b7 K (.len x)):DL L tm b7 K (.len x) st:=by
 simp only[XE]at h;split at h
 ·rename_i q es e
  exact DL.val hr _ (λ C=>by simp only[c4,hr.ev e (by intro e;cases e),JZ,lenOf];rfl) h
 ·rename_i e
  exact DL.val hr _ (λ C=>by simp only[c4,hr.ev e (by intro e;cases e),H6,lenOf];rfl) h
 ·rename_i e
  exact DL.val hr _ (λ C=>by simp only[c4,hr.ev e (by intro e;cases e),FN,lenOf];rfl) h
 ·exact h.elim
theorem Jg {mx:Bool} {k:IntKind} {K:AV->Prop} : ∀ {l:List AV} {a:Int},X7 mx k K a l -> ∃ n,OD mx (.int k a) l=some (.int k n)/\K (.int k n)/\(∀ v∈l,v ≠ .any/\DB σ v=v)
 | [],a,h=>⟨a,rfl,h,λ v hv=>by cases hv⟩
 | v::r,a,h=>by
  cases v with
  | int k' b =>
   have h:(bif mx then BJ (a<b) (b<=a) (X7 mx k K b r) (X7 mx k K a r) else BJ (b<a) (a<=b) (X7 mx k K b r) (X7 mx k K a r)):=h;have fin : ∀ c:Int,VH mx (.int k a) (.int k' b)=some (.int k c)->X7 mx k K c r -> ∃ n,OD mx (.int k a) (.int k' b::r)=some (.int k n)/\K (.int k n)/\(∀ v∈AV.int k' b::r,v ≠ .any/\DB σ v=v):=by
    intro c hc hx;obtain ⟨n,h1,h2,h3⟩:=Jg hx;refine ⟨n,by simp only[OD,hc,h1],h2,λ v hv => ?_⟩;rcases List.mem_cons.1 hv with rfl|hv
    ·exact ⟨(by intro e;cases e),rfl⟩
    ·exact h3 v hv
   cases mx
   ·simp only[cond_false]at h
    by_cases hc:b<a
    ·exact fin b (by simp [VH,hc]) (h.1 hc)
    ·exact fin a (by simp [VH,hc]) (h.2 (by omega))
   ·simp only[cond_true]at h
    by_cases hc:a<b
    ·exact fin b (by simp [VH,hc]) (h.1 hc)
    ·exact fin a (by simp [VH,hc]) (h.2 (by omega))
  | _=>exact (h:False).elim
theorem To {mx:Bool} {xs:List B8} (hr:RX σ tm M st) (h:XE L tm M b7 K (.mm mx xs)):DL L tm b7 K (.mm mx xs) st:=by
 simp only[XE]at h;split at h
 ·rename_i k a r e
  obtain ⟨n,h1,h2,h3⟩:=Jg (σ:=σ) h;refine DL.val hr (.int k n) (λ C => ?_) h2;have hx : ∀ v∈WD tm xs,v ≠ .any:=by
   rw[e];intro v hv;rcases List.mem_cons.1 hv with rfl|hv
   ·intro e;cases e
   ·exact (h3 v hv).1
  have hm:(WD tm xs).map (DB σ) = .int k a::r:=by
   rw[e,List.map_cons];congr 1;conv=>rhs;rw[<-List.map_id r]
   exact List.map_congr_left λ v hv=>(h3 v hv).2
  simp only[c4];rw[show xs.map st.ev = .int k a::r from (evL hr hx).trans hm];simp only[h1,Option.map_some,JW]
 ·exact h.elim
theorem Ak1 (hr:RX σ tm M st) {k t:Nat} {K:Nat->List (List AV)->Prop} (h:qE M k t K) : ∃ z es,(st.own (σ k t).1).blk (σ k t).2=some ⟨z,es⟩/\K z es:=by
 unfold qE at h;split at h
 ·rename_i s c hm
  split at h
  ·split at h
   ·exact ⟨_,_,hr.sat.blk _ _ _ (GN hm),h⟩
   ·exact h.elim
  ·rename_i i
   split at h
   ·rename_i rows
    obtain ⟨z,es,g,h⟩:=h;exact ⟨z,es,hr.sat.blk k (i+1) (.rw z es) (by simp [a8,hm,g]),h⟩
   ·exact h.elim
 ·exact h.elim
theorem Alt {own g7:BT} {s t i j:Nat} {vs:List AV} (h:own.er s t i j vs=some g7):own.put s (g7 s)=g7:=by
 unfold BT.er at h;cases hg:own.get s t with
 | none=>simp [hg]at h
 | some b =>
  simp only[hg]at h;cases he:b.es[i]? with
  | none=>simp [he]at h
  | some cs =>
   simp only[he]at h;split at h
   ·obtain rfl:=Option.some.inj h
    rw[BT.d6]
   ·cases h
theorem Tu {s n:Nat} {x v:B8} (hr:RX σ tm M st) (h:XE L tm M b7 K (.gf s n x v)):DL L tm b7 K (.gf s n x v) st:=by
 simp only[XE]at h;split at h
 ·rename_i key i j e1
  split at h
  ·rename_i s' c hm
   cases hb:Nat.beq s' s<;>simp only[hb,cond_true,cond_false]at h;obtain rfl:=DI.1 hb;have aw:=hr.sat.site _ _ _ hm;obtain ⟨E,σ',v',M',h1,h2,h3,h4⟩:=tJ (b7:=b7) (L:=L) hr (show XE L tm M b7 K (.st n x v) from h);have q5:=hr.ev e1 (by intro e;cases e);rw[GY,aw]at q5;have key : ∀ vs,cellsOf (st.ev v)=some vs->vs.length=n -> ∃ o',st.own.er s' (σ key 0).2 i j vs=some o'/\E = .w8 (.tup []) o':=λ vs de hn=>by
    have:=h1 0
    simp only[c4,q5,de]at this;rw[if_pos hn,Option.map_eq_some_iff]at this;obtain ⟨o',a1,a2⟩:=this;exact ⟨o',a1,a2.symm⟩
   cases de:cellsOf (st.ev v) with
   | none=>have:=h1 0;simp [c4,q5,de]at this
   | some vs =>
    by_cases hn:vs.length=n
    ·obtain ⟨o',a1,rfl⟩:=key vs de hn
     refine ⟨.l8 s' (o' s'),σ',v',M',λ C => ?_,h2,h3,?_⟩
     ·simp only[c4,q5,de]
      rw[if_pos ⟨trivial,hn⟩,a1];rfl
     ·have e2:(EB.res st.own (.l8 s' (o' s'))).2=o':=Alt a1
      rw[e2];exact h4
    ·have:=h1 0
     simp only[c4,q5,de]at this;rw[if_neg hn]at this;cases this
  ·exact h.elim
 ·exact h.elim
theorem Uu {ne:Bool} {x:B8} (hr:RX σ tm M st) (h:XE L tm M b7 K (.jo ne x)):DL L tm b7 K (.jo ne x) st:=by
 simp only[XE]at h;split at h
 ·rename_i e1
  rw[U8]at h;exact DL.val hr _ (λ C=>by simp only[c4,hr.ev e1 (by intro e;cases e),H6,JU]) h
 ·rename_i b e1
  rw[U8]at h;exact DL.val hr _ (λ C=>by simp only[c4,hr.ev e1 (by intro e;cases e),Ak2,JU]) h
 ·rename_i q es e1
  obtain ⟨h0,h⟩:=h;rw[U8]at h;cases es with
  | nil=>exact absurd rfl h0
  | cons e es=>exact DL.val hr _ (λ C=>by simp only[c4,hr.ev e1 (by intro e;cases e),JZ,JU]) h
 ·rename_i s t z o n e1
  obtain ⟨h0,h⟩:=h;rw[U8]at h;cases n with
  | zero=>exact absurd h0 (by omega)
  | succ n=>exact DL.val hr _ (λ C=>by simp only[c4,hr.ev e1 (by intro e;cases e),FN,JU]) h
 ·exact h.elim
theorem Tq {x:B8} (hr:RX σ tm M st) (h:XE L tm M b7 K (.jz x)):DL L tm b7 K (.jz x) st:=by
 simp only[XE]at h;split at h
 ·rename_i key t i j e
  exact DL.val hr _ (λ C=>by simp only[c4,hr.ev e (by intro e;cases e),GY]) h
 ·exact h.elim
theorem Ul {x:B8} (hr:RX σ tm M st) (h:XE L tm M b7 K (.ak x)):DL L tm b7 K (.ak x) st:=by
 simp only[XE]at h;split at h
 ·rename_i e
  exact DL.val hr _ (λ C=>by simp only[c4,hr.ev e (by intro e;cases e),H6];rfl) h
 ·exact h.elim
theorem Uf {s z bytes:Nat} {x y:B8} (hr:RX σ tm M st) (h:XE L tm M b7 K (.gi s z bytes x y)):DL L tm b7 K (.gi s z bytes x y) st:=by
 simp only[XE]at h;split at h
 ·rename_i k n e1 e2
  cases ay:HM s<;>simp only[ay,cond_true,cond_false]at h;obtain ⟨⟨g1,g2,g3⟩,h⟩:=h;obtain ⟨k,h1,h2,h3⟩:=KL h;refine ⟨.new s ⟨z,[]⟩ (λ t => .row s t z 0 n.toNat),_,_,_,λ C => ?_,h3,?_,hr.ax h1 h2 (.rw z []) trivial rfl (λ_=>ay)⟩
  ·simp only[c4,hr.ev e1 (by intro e;cases e),hr.ev e2 (by intro e;cases e),JW,H6]
   rw[if_pos ⟨g1,g2,g3⟩]
  ·simp only[EB.res,FN,DN]
 ·exact h.elim
theorem Ub {s z bytes:Nat} {x y:B8} (hr:RX σ tm M st) (h:XE L tm M b7 K (.gx s z bytes x y)):DL L tm b7 K (.gx s z bytes x y) st:=by
 simp only[XE]at h;split at h
 ·rename_i q ys e1 e2
  cases ay:HM s<;>simp only[ay,cond_true,cond_false]at h;obtain ⟨g1,g2,g3,g4,h⟩:=h;obtain ⟨k,h1,h2,h3⟩:=KL h;refine ⟨.new s ⟨z,ys⟩ (λ t => .row s t z 0 ys.length),_,_,_,λ C => ?_,h3,?_,hr.ax h1 h2 (.rw z ys) trivial rfl (λ_=>ay)⟩
  ·simp only[c4,hr.ev e1 (by intro e;cases e),hr.ev e2 (by intro e;cases e),H6,JZ]
   rw[if_pos ⟨g1,g4,g2,g3⟩]
  ·simp only[EB.res,FN,DN]
 ·exact h.elim
theorem Ts {tb:List Nat} {x:B8} (hr:RX σ tm M st) (h:XE L tm M b7 K (.bn tb x)):DL L tm b7 K (.bn tb x) st:=by
 simp only[XE]at h;split at h
 ·rename_i k n e1
  obtain ⟨h0,v,h1,h2⟩:=h;exact DL.val hr _ (λ C=>by simp only[c4,hr.ev e1 (by intro e;cases e),JW,h1];rw[if_pos h0]) h2
 ·exact h.elim
theorem AiG {v:AV} {K:AV->Prop} (h:fF v K):v ≠ .any/\KD (DB σ v)=some (CZ σ v)/\K v:=by
 cases v<;>first|exact (h:False).elim|exact ⟨(by intro e;cases e),rfl,h⟩
theorem Lc (hr:RX σ tm M st) : ∀ {l:List B8} {K:List AV->Prop},pB tm l K -> ∃ cs,l.mapM (λ x=>KD (st.ev x))=some (cs.map (CZ σ))/\K cs
 | [],K,h=>⟨[],rfl,h⟩
 | x::r,K,h=>by
  obtain ⟨h0,hc,h⟩:=AiG (σ:=σ) (show fF (ex tm x) λ v=>pB tm r λ cs=>K (v::cs) from h);obtain ⟨cs,h1,h2⟩:=Lc hr h;refine ⟨ex tm x::cs,?_,h2⟩;rw[List.mapM_cons,h1,hr.ev rfl h0,hc];rfl
theorem Uy {p:Bool} {f:Nat} {xs:List B8} (hr:RX σ tm M st) (h:XE L tm M b7 K (.iu p f xs)):DL L tm b7 K (.iu p f xs) st:=by
 simp only[XE]at h;obtain ⟨cs,h1,h2⟩:=Lc hr h;exact DL.val hr _ (λ C=>by simp only[c4,h1,Option.map_some,qF];rfl) h2
theorem xJ (hr:RX σ tm M st) {v:AV} {K:List (List AV)->Prop} (h:cH M v K):v ≠ .any /\ ∃ es,G4 st.own (DB σ v)=some es/\K es:=by
 cases v with
 | sl q es=>exact ⟨(by intro e;cases e),_,rfl,h⟩
 | nil=>exact ⟨(by intro e;cases e),_,rfl,h⟩
 | w7 v =>
  cases v with
  | bool b=>exact ⟨(by intro e;cases e),_,rfl,h⟩
  | _=>exact (h:False).elim
 | row key t z off len =>
  simp only[cH]at h;obtain ⟨z',es,g,h⟩:=Ak1 hr h;cases hz:Nat.beq z z'<;>simp only[hz,cond_true,cond_false]at h;obtain rfl:=DI.1 hz;refine ⟨(by intro e;cases e),_,?_,h.2⟩;simp only[FN,G4,BT.get,g];rw[if_pos ⟨h.1,trivial⟩]
 | _=>exact (h:False).elim
theorem pC (hr:RX σ tm M st) {o:Option B8} {K:Option Int->Prop} (h:iY tm o K):(o=none/\K none) \/ ∃ x k n,o=some x/\st.ev x = .int k n/\K (some n):=by
 unfold iY at h;split at h
 ·exact Or.inl ⟨rfl,h⟩
 ·split at h
  ·rename_i e
   exact Or.inr ⟨_,_,_,rfl,hr.ev e (by intro e;cases e),h⟩
  ·exact h.elim
theorem Tt {z:Nat} {x:B8} {lo hi:Option B8} (hr:RX σ tm M st) (h:XE L tm M b7 K (.ae z x lo hi)):DL L tm b7 K (.ae z x lo hi) st:=by
 simp only[XE]at h;have go : ∀ (a b:Option Int),(match ex tm x with
   | .sl l es=>EE z es a b λ es=>K (.sl l es) M
   | .row key t z' off len=>bif Nat.beq z' z then DR a b len λ a h=>K (.row key t z (off+a) (h-a)) M else False
   | .nil=>(match a,b with
    | none,none=>K .nil M
    | some a,none=>B1 (a=0) (K .nil M)
    | none,some h=>B1 (h=0) (K .nil M)
    | some a,some h=>B1 (a=0/\h=0) (K .nil M))
   | _=>False)->(lo=none/\a=none \/ ∃ y k n,lo=some y/\st.ev y = .int k n/\a=some n)->(hi=none/\b=none \/ ∃ y k n,hi=some y/\st.ev y = .int k n/\b=some n)->DL L tm b7 K (.ae z x lo hi) st:=by
  intro a b h ha hb;split at h
  ·rename_i q es e
   obtain ⟨g1,a',h',g2,g3,g4,h⟩:=h;refine DL.val hr _ (λ C => ?_) h;rcases ha with ⟨rfl,rfl⟩|⟨y,k,n,rfl,e1,rfl⟩<;>rcases hb with ⟨rfl,rfl⟩|⟨y',k',n',rfl,e2,rfl⟩<;>try simp only at g2 g3<;>simp only[c4,hr.ev e (by intro e;cases e),JZ, *]<;>simp_all
  ·rename_i key t z' off len e
   cases hz:Nat.beq z' z<;>simp only[hz,cond_true,cond_false]at h;obtain rfl:=DI.1 hz;obtain ⟨a',h',g2,g3,g4,h⟩:=h;refine DL.val hr _ (λ C => ?_) h;rcases ha with ⟨rfl,rfl⟩|⟨y,k,n,rfl,e1,rfl⟩<;>rcases hb with ⟨rfl,rfl⟩|⟨y',k',n',rfl,e2,rfl⟩<;>try simp only at g2 g3<;>simp only[c4,hr.ev e (by intro e;cases e),FN, *]<;>simp_all
  ·rename_i e
   rcases ha with ⟨rfl,rfl⟩|⟨y,k,n,rfl,e1,rfl⟩<;>rcases hb with ⟨rfl,rfl⟩|⟨y',k',n',rfl,e2,rfl⟩<;>simp only at h
   ·exact DL.val hr .nil (λ C=>by simp only[c4,hr.ev e (by intro e;cases e),H6]) h
   ·exact DL.val hr .nil (λ C=>by simp only[c4,hr.ev e (by intro e;cases e),H6,e2,h.1,if_true]) h.2
   ·exact DL.val hr .nil (λ C=>by simp only[c4,hr.ev e (by intro e;cases e),H6,e1,h.1,if_true]) h.2
   ·exact DL.val hr .nil (λ C=>by simp only[c4,hr.ev e (by intro e;cases e),H6,e1,e2,h.1.1,h.1.2,if_true]) h.2
  ·exact h.elim
 rcases pC hr h with ⟨h1,h⟩|⟨y,k,n,h1,h2,h⟩
 ·rcases pC hr h with ⟨g1,h⟩|⟨y,k,n,g1,g2,h⟩
  ·exact go _ _ h (Or.inl ⟨h1,rfl⟩) (Or.inl ⟨g1,rfl⟩)
  ·exact go _ _ h (Or.inl ⟨h1,rfl⟩) (Or.inr ⟨_,_,_,g1,g2,rfl⟩)
 ·rcases pC hr h with ⟨g1,h⟩|⟨y',k',n',g1,g2,h⟩
  ·exact go _ _ h (Or.inr ⟨_,_,_,h1,h2,rfl⟩) (Or.inl ⟨g1,rfl⟩)
  ·exact go _ _ h (Or.inr ⟨_,_,_,h1,h2,rfl⟩) (Or.inr ⟨_,_,_,g1,g2,rfl⟩)
theorem jJ {s key:Nat} : ∀ {M:Mem},JT s M=false->JT s (i9 key M)=false
 | [],_=>rfl
 | (i,s0,c0)::r,h=>by
  simp only[JT]at h;cases q0:Nat.beq s i<;>simp only[q0,cond_true,cond_false]at h
  ·cases q1:LB s c0<;>simp only[q1,cond_true,cond_false]at h
   ·simp only[i9]
    cases Nat.beq key i
    ·simp only[cond_false,JT,q0,q1,jJ h]
    ·simp only[cond_true,jJ h]
   ·cases h
  ·cases h
theorem Ud {s z bytes:Nat} {x y:B8} (hr:RX σ tm M st) (h:cH M (ex tm y) λ ys=>match ex tm x with
   | .row key 0 z' off len=>bif Nat.beq off 0 then bif Nat.beq z' z then (match b9 M key with
    | some (s',.rw v5 es)=>bif Nat.beq v5 z then fM (i9 key M) λ M'=>(DT es len ys z bytes λ es' n=>I6 s tm M λ k=>K (.row k 0 z 0 n) ((k,s',.rw z es')::M')) else False
    | _=>False) else False else False
   | .row key (i+1) z' off len=>bif Nat.beq off 0 then bif Nat.beq z' z then (match b9 M key with
    | some (sk,.mx rows)=>fM (i9 key M) λ M'=>C9 rows i λ v5 es=>bif Nat.beq v5 z then (DT es len ys z bytes λ es' n => ∀ s' v,I6 s tm M λ k=>K (.row k 0 z 0 n) ((k,s',.rw z es')::(key,sk,.hx i v (rows.set i none))::M')) else False
    | _=>False) else False else False
   | .nil=>bif HM s then EG ys z bytes λ es n=>I6 s tm M λ k=>K (.row k 0 z 0 n) ((k,s,.rw z es)::M) else False
   | _=>False):DL L tm b7 K (.app s z bytes x y) st:=by
 obtain ⟨h0,ys,hy,h⟩:=xJ hr h;have hy':G4 st.own (st.ev y)=some ys:=by rw[hr.ev rfl h0];exact hy
 split at h
 ·rename_i key z' off len e
  cases ho:Nat.beq off 0<;>simp only[ho,cond_true,cond_false]at h;cases hz:Nat.beq z' z<;>simp only[hz,cond_true,cond_false]at h;obtain rfl:=DI.1 ho;obtain rfl:=DI.1 hz;split at h
  ·rename_i s' v5 es hm
   cases hz2:Nat.beq v5 z'<;>simp only[hz2,cond_true,cond_false]at h;obtain rfl:=DI.1 hz2;rw[N8]at h;obtain ⟨g1,g2,g3,g4,h⟩:=h;obtain ⟨k,h1,h2,h3⟩:=KL h;have hs:=hr.sat.site _ _ _ hm;have o8:=hr.sat.blk _ _ _ (GN hm);have hn:=(hr.kill hm).ax (s:=k) (q:=s') (jJ h1) h2 (.rw v5 (es.take len++ys)) trivial rfl (λ_=>by have:=hr.sat.low _ _ _ (GN hm) rfl;rwa [hs]at this);have px:(st.own.put s' ((st.own s').l8 (σ key 0).2 none)).c8 s'=st.own.c8 s':=by simp [BT.c8,BT.d6,D9.l8]
   simp only[BT.d6,BT.ep,px]at hn;refine ⟨.w8 (.row s' (st.own.c8 s') v5 0 (len+ys.length)) (st.own.put s' (((st.own s').l8 (σ key 0).2 none).new ⟨v5,es.take len++ys⟩)),_,_,_,λ C => ?_,h3,?_,hn⟩
   ·rw[hs]at o8
    simp only[c4,hy',hr.ev e (by intro e;cases e),FN,BT.get,hs,o8,CS.blk];rw[if_pos g2,if_pos ⟨trivial,trivial,g1,g3,g4⟩]
   ·simp only[EB.res,FN,DN]
  ·exact h.elim
 ·rename_i key i z' off len e
  cases ho:Nat.beq off 0<;>simp only[ho,cond_true,cond_false]at h;cases hz:Nat.beq z' z<;>simp only[hz,cond_true,cond_false]at h;obtain rfl:=DI.1 ho;obtain rfl:=DI.1 hz;split at h
  ·rename_i sk rows hm
   rw[N8]at h;obtain ⟨v5,es,g0,h⟩:=h;cases hz2:Nat.beq v5 z'<;>simp only[hz2,cond_true,cond_false]at h;obtain rfl:=DI.1 hz2;obtain ⟨g1,g2,g3,g4,h⟩:=h;have h:=h (σ key (i+1)).1 (.row (σ key (i+1)).1 (σ key (i+1)).2 v5 0 es.length);obtain ⟨k,h1,h2,h3⟩:=KL h;have o8:=hr.sat.blk key (i+1) (.rw v5 es) (by simp [a8,hm,g0]);have hn:=hr.Ba (s:=k) (es':=es.take len++ys) hm g0 h1 h2;refine ⟨.w8 (.row (σ key (i+1)).1 (st.own.c8 (σ key (i+1)).1) v5 0 (len+ys.length)) (st.own.put (σ key (i+1)).1 (((st.own (σ key (i+1)).1).l8 (σ key (i+1)).2 none).new ⟨v5,es.take len++ys⟩)),_,_,_,λ C => ?_,h3,?_,hn⟩
   ·simp only[c4,hy',hr.ev e (by intro e;cases e),FN,BT.get,o8,CS.blk]
    rw[if_pos g2,if_pos ⟨trivial,trivial,g1,g3,g4⟩]
   ·simp only[EB.res,FN,DN]
  ·exact h.elim
 ·rename_i e
  cases ay:HM s<;>simp only[ay,cond_true,cond_false]at h;obtain ⟨g2,g3,g4,h⟩:=h;obtain ⟨k,h1,h2,h3⟩:=KL h;refine ⟨.w8 (.row s (st.own.c8 s) z 0 ys.length) (st.own.put s ((st.own s).new ⟨z,ys⟩)),_,_,_,λ C => ?_,h3,?_,hr.ax h1 h2 (.rw z ys) trivial rfl (λ_=>ay)⟩
  ·simp only[c4,hy',hr.ev e (by intro e;cases e),H6]
   rw[if_pos g2,if_pos ⟨g3,g4⟩]
  ·simp only[EB.res,FN,DN]
 ·exact h.elim
theorem Ue {s z bytes:Nat} {x y:B8} (hr:RX σ tm M st) (h:XE L tm M b7 K (.y9 s z bytes x y)):DL L tm b7 K (.y9 s z bytes x y) st:=by
 simp only[XE]at h;split at h
 ·rename_i l ys ey
  split at h
  ·rename_i key z' off len e
   cases ho:Nat.beq off 0<;>simp only[ho,cond_true,cond_false]at h;cases hz:Nat.beq z' z<;>simp only[hz,cond_true,cond_false]at h;obtain rfl:=DI.1 ho;obtain rfl:=DI.1 hz;split at h
   ·rename_i s' v5 es hm
    cases hs0:Nat.beq s' s<;>simp only[hs0,cond_true,cond_false]at h;cases hz2:Nat.beq v5 z'<;>simp only[hz2,cond_true,cond_false]at h;obtain rfl:=DI.1 hs0;obtain rfl:=DI.1 hz2;rw[N8]at h;obtain ⟨g1,g2,g3,g4,h⟩:=h;obtain ⟨k,h1,h2,h3⟩:=KL h;have hs:=hr.sat.site _ _ _ hm;have o8:=hr.sat.blk _ _ _ (GN hm);have hn:=(hr.kill hm).ax (s:=k) (q:=s') (jJ h1) h2 (.rw v5 (es.take len++ys)) trivial rfl (λ_=>by have:=hr.sat.low _ _ _ (GN hm) rfl;rwa [hs]at this);have px:(st.own.put s' ((st.own s').l8 (σ key 0).2 none)).c8 s'=st.own.c8 s':=by simp [BT.c8,BT.d6,D9.l8]
    simp only[BT.d6,BT.ep,px]at hn;refine ⟨.js s' (((st.own s').l8 (σ key 0).2 none).new ⟨v5,es.take len++ys⟩) (.row s' (st.own.c8 s') v5 0 (len+ys.length)),_,_,_,λ C => ?_,h3,?_,hn⟩
    ·rw[hs]at o8
     simp only[c4,hr.ev ey (by intro e;cases e),JZ,hr.ev e (by intro e;cases e),FN,BT.get,hs,o8,CS.blk];rw[if_pos ⟨trivial,g2,trivial,trivial,g1,g3,g4⟩]
    ·simp only[EB.res,FN,DN]
   ·exact h.elim
  ·exact h.elim
 ·exact h.elim
theorem Xm {v:AV} {ky k2 z n:Nat} (h:XG M v=some (ky,some (k2,z,n))):v = .row ky 0 1 0 1 /\ ∃ sy,b9 M ky=some (sy,.bs 1 [[.row k2 0 z 0 n]]):=by
 unfold XG at h;split at h
 ·split at h
  ·rename_i hm
   simp only[Option.some.injEq,Prod.mk.injEq]at h;obtain ⟨rfl,rfl,rfl,rfl⟩:=h;exact ⟨rfl,_,hm⟩
  ·simp at h
  ·cases h
 ·cases h
theorem Xl {v:AV} {ky:Nat} (h:XG M v=some (ky,none)):v = .row ky 0 1 0 1 /\ ∃ sy,b9 M ky=some (sy,.rw 1 [[.nil]]):=by
 unfold XG at h;split at h
 ·split at h
  ·simp at h
  ·rename_i hm
   simp only[Option.some.injEq,Prod.mk.injEq,and_true]at h;subst h;exact ⟨rfl,_,hm⟩
  ·cases h
 ·cases h
theorem Uc {s z bytes:Nat} {x y:B8} (hr:RX σ tm M st) (h:XE L tm M b7 K (.app s z bytes x y)):DL L tm b7 K (.app s z bytes x y) st:=by
 simp only[XE]at h;split at h
 ·rename_i ky k2 z2 n2 Fm
  obtain ⟨fx,sy,nh⟩:=Xm Fm;have ff:=hr.sat.site _ _ _ nh;have ig:=hr.sat.blk _ _ _ (GN nh);rw[ff]at ig
  have wo:G4 st.own (st.ev y)=some [[.row (σ k2 0).1 (σ k2 0).2 z2 0 n2]]:=by
   rw[hr.ev fx (by intro e;cases e)];simp only[FN,G4,BT.get,ff,ig,CS.blk,CZ,List.map_cons,List.map_nil,List.length_cons,List.length_nil];simp
  split at h
  ·rename_i key z' off len e
   cases ho:Nat.beq off 0<;>simp only[ho,cond_true,cond_false]at h;cases hz:Nat.beq z' 1<;>simp only[hz,cond_true,cond_false]at h;cases hz1:Nat.beq z 1<;>simp only[hz1,cond_true,cond_false]at h;cases hk2:Nat.beq key k2<;>simp only[hk2,cond_true,cond_false]at h;cases Ge:Nat.beq key ky<;>simp only[Ge,cond_true,cond_false]at h;cases hk3:Nat.beq k2 ky<;>simp only[hk3,cond_true,cond_false]at h;obtain rfl:=DI.1 ho;obtain rfl:=DI.1 hz;obtain rfl:=DI.1 hz1;split at h
   ·rename_i s2 z3 es hm2
    cases wq:Nat.beq z2 z3<;>simp only[wq,cond_true,cond_false]at h;obtain rfl:=DI.1 wq;split at h
    ·rename_i s' rows hm
     rw[N8]at h;obtain ⟨rfl,rfl,g3,g4,h⟩:=h;obtain ⟨k,h1,h2,h3⟩:=KL h;have hs:=hr.sat.site _ _ _ hm;have o8:=hr.sat.blk _ _ _ (GN hm);rw[hs]at o8;refine ⟨.w8 (.row s' (st.own.c8 s') 1 0 (rows.length+1)) (st.own.put s' (((st.own s').l8 (σ key 0).2 none).new ⟨1,DZ σ key 0 rows++[[.row (σ k2 0).1 (σ k2 0).2 z2 0 es.length]]⟩)),_,_,_,λ C => ?_,h3,?_,hr.Bb (ky:=ky) hm hm2 (IG.1 hk2) h1 h2⟩
     ·simp only[c4,wo,hr.ev e (by intro e;cases e),FN,BT.get,hs,o8,CS.blk]
      rw[if_pos (by simp),if_pos ⟨trivial,trivial,by rw[H3];exact Nat.le_refl _,by simpa using g3,by simpa using g4⟩];rw[List.take_of_length_le (by rw[H3];exact Nat.le_refl _)];rfl
     ·simp only[EB.res,FN,DN]
    ·exact h.elim
   ·exact h.elim
  ·rename_i e
   cases ay:HM s<;>simp only[ay,cond_true,cond_false]at h;cases hz1:Nat.beq z 1<;>simp only[hz1,cond_true,cond_false]at h;obtain rfl:=DI.1 hz1;split at h
   ·rename_i s2 z3 es hm2
    cases wq:Nat.beq z2 z3<;>simp only[wq,cond_true,cond_false]at h;obtain rfl:=DI.1 wq;rw[N8]at h;obtain ⟨⟨rfl,g3⟩,h⟩:=h;obtain ⟨k,h1,h2,h3⟩:=KL h;obtain ⟨σ',q1,q2⟩:=hr.Hu (q:=s) hm2 (λ e=>(YP h1 _ _ _ hm2).1 e.symm) h1 h2 ay;refine ⟨.w8 (.row s (st.own.c8 s) 1 0 1) (st.own.put s ((st.own s).new ⟨1,[[.row (σ k2 0).1 (σ k2 0).2 z2 0 es.length]]⟩)),σ',_,_,λ C => ?_,h3,?_,q2⟩
    ·simp only[c4,wo,hr.ev e (by intro e;cases e),H6]
     rw[if_pos (by simp),if_pos ⟨by simpa [FR] using g3,by simp⟩];rfl
    ·simp only[EB.res,FN,q1]
   ·exact h.elim
  ·exact h.elim
 ·rename_i ky Fm
  obtain ⟨fx,sy,nh⟩:=Xl Fm;have ff:=hr.sat.site _ _ _ nh;have ig:=hr.sat.blk _ _ _ (GN nh);rw[ff]at ig
  have wo:G4 st.own (st.ev y)=some [[.nil]]:=by
   rw[hr.ev fx (by intro e;cases e)];simp only[FN,G4,BT.get,ff,ig,CS.blk,List.length_cons,List.length_nil];simp
  split at h
  ·rename_i key z' off len e
   cases ho:Nat.beq off 0<;>simp only[ho,cond_true,cond_false]at h;cases hz:Nat.beq z' 1<;>simp only[hz,cond_true,cond_false]at h;cases hz1:Nat.beq z 1<;>simp only[hz1,cond_true,cond_false]at h;cases Ge:Nat.beq key ky<;>simp only[Ge,cond_true,cond_false]at h;obtain rfl:=DI.1 ho;obtain rfl:=DI.1 hz;obtain rfl:=DI.1 hz1;split at h
   ·rename_i s' rows hm
    rw[N8]at h;obtain ⟨rfl,g3,g4,h⟩:=h;obtain ⟨k,h1,h2,h3⟩:=KL h;have hs:=hr.sat.site _ _ _ hm;have o8:=hr.sat.blk _ _ _ (GN hm);rw[hs]at o8;refine ⟨.w8 (.row s' (st.own.c8 s') 1 0 (rows.length+1)) (st.own.put s' (((st.own s').l8 (σ key 0).2 none).new ⟨1,DZ σ key 0 rows++[[.nil]]⟩)),_,_,_,λ C => ?_,h3,?_,hr.Bc hm h1 h2⟩
    ·simp only[c4,wo,hr.ev e (by intro e;cases e),FN,BT.get,hs,o8,CS.blk]
     rw[if_pos (by simp),if_pos ⟨trivial,trivial,by rw[H3];exact Nat.le_refl _,by simpa using g3,by simpa using g4⟩];rw[List.take_of_length_le (by rw[H3];exact Nat.le_refl _)];rfl
    ·simp only[EB.res,FN,DN]
   ·exact h.elim
  ·rename_i e
   cases ay:HM s<;>simp only[ay,cond_true,cond_false]at h;cases hz1:Nat.beq z 1<;>simp only[hz1,cond_true,cond_false]at h;obtain rfl:=DI.1 hz1;obtain ⟨g3,h⟩:=h;obtain ⟨k,h1,h2,h3⟩:=KL h;have hfl:CS.flat (.mx [none]):=by
    intro i x hx;cases i with
    | zero=>simp at hx
    | succ i=>simp at hx
   refine ⟨.w8 (.row s (st.own.c8 s) 1 0 1) (st.own.put s ((st.own s).new ⟨1,[[.nil]]⟩)),_,_,_,λ C => ?_,h3,?_,hr.ax h1 h2 (.mx [none]) hfl rfl (λ_=>ay)⟩
   ·simp only[c4,wo,hr.ev e (by intro e;cases e),H6]
    rw[if_pos (by simp),if_pos ⟨by simpa [FR] using g3,by simp⟩];rfl
   ·simp only[EB.res,FN,DN]
  ·exact h.elim
 ·exact Ud hr h
theorem Un {z:Nat} {x y:B8} (hr:RX σ tm M st) (h:XE L tm M b7 K (.ia z x y)):DL L tm b7 K (.ia z x y) st:=by
 simp only[XE]at h;obtain ⟨h0,ys,hy,h⟩:=xJ hr h;have hy':G4 st.own (st.ev y)=some ys:=by rw[hr.ev rfl h0];exact hy
 split at h
 ·rename_i key z' off len e
  cases hz:Nat.beq z' z<;>simp only[hz,cond_true,cond_false]at h;obtain rfl:=DI.1 hz;split at h
  ·rename_i s' v5 es hm
   cases hz2:Nat.beq v5 z'<;>simp only[hz2,cond_true,cond_false]at h;obtain rfl:=DI.1 hz2;obtain ⟨g1,g2,h⟩:=h;have hs:=hr.sat.site _ _ _ hm;have o8:=hr.sat.blk _ _ _ (GN hm);refine ⟨.w8 (.int .i64 (min ys.length len:Nat)) (st.own.put s' ((st.own s').l8 (σ key 0).2 (some ⟨v5,es.take off++ys.take len++es.drop (off+min ys.length len)⟩))),_,_,_,λ C => ?_,h,rfl,hr.Ax hm trivial (.rw v5 _) trivial (λ_=>rfl)⟩;rw[hs]at o8;simp only[c4,hy',hr.ev e (by intro e;cases e),FN,BT.get,hs,o8,CS.blk];rw[if_pos ⟨trivial,trivial,g1,g2⟩]
  ·exact h.elim
 ·exact h.elim
end
end Go.Eng
