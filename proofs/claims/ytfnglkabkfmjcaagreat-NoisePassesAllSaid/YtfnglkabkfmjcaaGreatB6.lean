/-
  The walk by computation is sound.
-/
import Derived.Test.YtfnglkabkfmjcaaGreatB5
set_option linter.unusedSimpArgs false
set_option linter.unusedVariables false
set_option linter.unnecessarySimpa false
namespace Go.e8
theorem BL {a b:Nat}:Nat.beq a b=true↔a=b:=⟨Nat.eq_of_beq_eq_true,λ h=>by subst h;simp⟩
theorem FK {a b:Nat}:Nat.beq a b=false↔a≠b:=by
 constructor
 ·exact Nat.ne_of_beq_eq_false
 ·intro h
  cases e:Nat.beq a b
  ·rfl
  ·exact absurd (Nat.eq_of_beq_eq_true e) h
theorem OL (j:Nat) : ∀ tm:Tm,tg tm j=j8 tm j
 | []=>rfl
 | (i,v)::r=>by
  simp only[tg,jG,OL j r];cases e:Nat.beq j i
  ·rw[if_neg (FK.1 e)];rfl
  ·rw[if_pos (BL.1 e)];rfl
theorem GU : ∀ (l:List AV) (K:List AV->Prop),fL l K=K l
 | [],_=>rfl
 | v::r,K=>by rw[fL,GU r]
theorem dG : ∀ (l:Tm) (K:Tm->Prop),fT l K=K l
 | [],_=>rfl
 | (i,v)::r,K=>by rw[fT,dG r]
theorem O5 : ∀ (l:Mem) (K:Mem->Prop),fM l K=K l
 | [],_=>rfl
 | (k,s,c)::r,K=>by rw[fM,O5 r]
theorem Aj9 (n:Nat) (K:Nat->Prop):fN n K=K n:=by cases n<;>rfl
theorem pC (m i:Nat):bit m i=m.testBit i:=by
 have h:Nat.land (Nat.shiftRight m i) 1=(m >>> i)%2:=Nat.and_one_is_mod (m >>> i);have ht:m.testBit i=decide ((m >>> i)%2=1):=by
  rw[Nat.testBit,Nat.and_comm,Nat.and_one_is_mod];rcases Nat.mod_two_eq_zero_or_one (m >>> i) with e|e<;>simp [e]
 unfold bit;rw[h,ht];rcases Nat.mod_two_eq_zero_or_one (m >>> i) with e|e<;>rw[e]<;>rfl
theorem xQ (m i j:Nat):bit (Nat.lor m (Nat.shiftLeft 1 i)) j=(bit m j||decide (j=i)):=by
 rw[pC,pC];show (m ||| (1 <<< i)).testBit j=_;rw[Nat.testBit_or,Nat.testBit_shiftLeft];congr 1;by_cases h:j=i
 ·subst h;simp
 ·by_cases h2:j≥i
  ·obtain ⟨d,rfl⟩ : ∃ d,j=i+d+1:=⟨j-i-1,by omega⟩
   rw[show i+d+1-i=d+1 by omega,Nat.testBit_succ];simp [h]
  ·simp [h2,h]
theorem xM : ∀ (ts:List Nat) (m j:Nat),bit (mask m ts) j=(bit m j||ts.contains j)
 | [],m,j=>by simp [mask]
 | t::ts,m,j=>by
  rw[mask,xM ts,xQ,List.contains_cons,Bool.or_assoc];congr 2
theorem pD (j:Nat):bit 0 j=false:=by rw[pC];simp
theorem jE (j:Nat) : ∀ (tm:Tm) (m:Nat),tg (ye m tm) j=bif bit m j then .any else tg tm j
 | [],m=>by cases bit m j<;>rfl
 | (i,v)::r,m=>by
  simp only[ye];cases hb:bit m i
  ·simp only[cond_false,tg,jE j r,xQ]
   cases hj:Nat.beq j i
   ·have:decide (j=i)=false:=by simpa using FK.1 hj
    simp only[cond_false,this,Bool.or_false]
   ·obtain rfl:=BL.1 hj
    simp only[cond_true,hb,cond_false]
  ·simp only[cond_true,tg,jE j r]
   cases hj:Nat.beq j i
   ·rfl
   ·obtain rfl:=BL.1 hj
    simp only[hb,cond_true]
theorem mB {v:AV} {K:AV->Prop} (h:fV v K):v ≠ .any/\K v:=by
 cases v<;>simp only[fV,GU]at h<;>first|exact h.elim|exact ⟨(by intro e;cases e),h⟩
theorem mA {v:AV} {K:List AV->Prop} (h:fC v K):v ≠ .any /\ ∃ cs,cellsOf v=some cs/\K cs:=by
 cases v<;>simp only[fC,fV,GU]at h<;>first|exact h.elim|exact ⟨(by intro e;cases e),_,rfl,h⟩
theorem YK (b:Bool) (K:Bool->Prop):fB b K=K b:=by cases b<;>rfl
theorem Xv {k:Nat} {tm:Tm} {M:Mem} (h:used k tm M=false):G2 k M=false/\IJ k tm=false:=by
 unfold used at h;cases h1:G2 k M<;>simp only[h1,cond_true,cond_false]at h
 ·exact ⟨rfl,h⟩
 ·cases h
theorem Vq {tm:Tm} {M:Mem} {K:Nat->Prop} : ∀ {l:List Nat},mW tm M l K -> ∃ k,G2 k M=false/\IJ k tm=false/\K k
 | [],h=>h.elim
 | k::r,h=>by
  simp only[mW]at h;cases h0:used k tm M<;>simp only[h0,cond_true,cond_false]at h
  ·exact ⟨k,(Xv h0).1,(Xv h0).2,h⟩
  ·exact Vq h
theorem HO {s:Nat} {tm:Tm} {M:Mem} {K:Nat->Prop} (h:F9 s tm M K) : ∃ k,G2 k M=false/\IJ k tm=false/\K k:=Vq h
section
variable {σ:FP}
def C4 (σ:FP) (k:Nat) (f:Nat->Nat × Nat):FP:=λ j t=>if j=k then f t else σ j t
theorem CS {k j:Nat} (f:Nat->Nat × Nat) (h:j≠k):C4 σ k f j=σ j:=by funext t;simp [C4,h]
theorem BV (k:Nat) (f:Nat->Nat × Nat):C4 σ k f k=f:=by funext t;simp [C4]
theorem vN {k:Nat} {p:Nat->Nat × Nat} {v:AV} (h:WM k v=false):A7 (C4 σ k p) v=A7 σ v:=by
 cases v with
 | row j t z o n=>simp only[WM]at h;simp only[A7,CS p (FK.1 h)]
 | ptr j t a b=>simp only[WM]at h;simp only[A7,CS p (FK.1 h)]
 | _=>rfl
theorem eE {k:Nat} {p:Nat->Nat × Nat} : ∀ {cs:List AV},II k cs=false->cs.map (A7 (C4 σ k p))=cs.map (A7 σ)
 | [],_=>rfl
 | c::r,h=>by
  simp only[II]at h;cases h1:WM k c<;>simp only[h1,cond_true,cond_false]at h
  ·rw[List.map_cons,List.map_cons,vN h1,eE h]
  ·cases h
theorem vL {k:Nat} {p:Nat->Nat × Nat} : ∀ {es:List (List AV)},J7 k es=false->(es.map λ cs=>cs.map (A7 (C4 σ k p)))=es.map λ cs=>cs.map (A7 σ)
 | [],_=>rfl
 | c::r,h=>by
  simp only[J7]at h;cases h1:II k c<;>simp only[h1,cond_true,cond_false]at h
  ·rw[List.map_cons,List.map_cons,eE h1,vL h]
  ·cases h
theorem jC {k:Nat} {p:Nat->Nat × Nat} {v:AV} (h:Y1 k v=false):BS (C4 σ k p) v=BS σ v:=by
 cases v with
 | agg cs=>simp only[Y1]at h;simp only[BS,eE h]
 | fn p f g cs=>simp only[Y1]at h;simp only[BS,eE h]
 | row a b c d e=>exact vN (v := .row a b c d e) h
 | ptr a b c d=>exact vN (v := .ptr a b c d) h
 | _=>rfl
theorem Zn {k:Nat} {p:Nat->Nat × Nat} : ∀ {cs:List AV},dY k cs=false->cs.map (BS (C4 σ k p))=cs.map (BS σ)
 | [],_=>rfl
 | c::r,h=>by
  simp only[dY]at h;cases h1:Y1 k c<;>simp only[h1,cond_true,cond_false]at h
  ·rw[List.map_cons,List.map_cons,jC h1,Zn h]
  ·cases h
theorem nU {k:Nat} {p:Nat->Nat × Nat} {v:AV} (h:WN k v=false):BG (C4 σ k p) v=BG σ v:=by
 cases v with
 | j9 cs=>simp only[WN]at h;simp only[BG,Zn h]
 | agg cs=>exact jC (v := .agg cs) h
 | fn p f g cs=>exact jC (v := .fn p f g cs) h
 | row a b c d e=>exact jC (v := .row a b c d e) h
 | ptr a b c d=>exact jC (v := .ptr a b c d) h
 | _=>rfl
theorem dZ {k:Nat} : ∀ {tm:Tm},IJ k tm=false -> ∀ j,WN k (tg tm j)=false
 | [],_,_=>rfl
 | (i,v)::r,h,j=>by
  simp only[IJ]at h;cases h1:WN k v<;>simp only[h1,cond_true,cond_false]at h
  ·simp only[tg]
   cases Nat.beq j i
   ·exact dZ h j
   ·exact h1
  ·cases h
theorem X0 {k:Nat} : ∀ {M:Mem},G2 k M=false -> ∀ j s c,g9 M j=some (s,c)->j≠k/\HE k c=false
 | [],_,_,_,_,e=>by cases e
 | (i,s0,c0)::r,h,j,s,c,e=>by
  simp only[G2]at h;cases h0:Nat.beq k i<;>simp only[h0,cond_true,cond_false]at h
  ·cases h1:HE k c0<;>simp only[h1,cond_true,cond_false]at h
   ·simp only[g9]at e
    cases h2:Nat.beq j i<;>simp only[h2,cond_true,cond_false]at e
    ·exact X0 h j s c e
    ·simp only[Option.some.injEq,Prod.mk.injEq]at e
     obtain ⟨_,rfl⟩:=e;exact ⟨λ e=>FK.1 h0 (e.symm.trans (BL.1 h2)),h1⟩
   ·cases h
  ·cases h
theorem ZV {σ σ':FP} {k:Nat} : ∀ (rows:List (Option (Nat × List (List AV)))) (i:Nat),(∀ j,i<=j->σ k (j+1)=σ' k (j+1))->B5 σ k i rows=B5 σ' k i rows
 | [],i,h=>rfl
 | none::r,i,h=>by rw[B5,B5,ZV r (i+1) λ j hj=>h j (by omega)]
 | some (z,es)::r,i,h=>by rw[B5,B5,ZV r (i+1) λ j hj=>h j (by omega),h i (by omega)]
theorem E6 {k:Nat} : ∀ (rows:List (Option (Nat × List (List AV)))) (i j:Nat),(B5 σ k i rows)[j]? = (rows[j]?).map λ r=>match r with|none=>[.nil]|some (z,es)=>[.row (σ k (i+j+1)).1 (σ k (i+j+1)).2 z 0 es.length]
 | [],i,j=>by simp [B5]
 | none::r,i,0=>by simp [B5]
 | none::r,i,j+1=>by simp only[B5,List.getElem?_cons_succ,E6 r (i+1) j];rw[show i+1+j=i+(j+1) by omega]
 | some (z,es)::r,i,0=>by simp [B5]
 | some (z,es)::r,i,j+1=>by simp only[B5,List.getElem?_cons_succ,E6 r (i+1) j];rw[show i+1+j=i+(j+1) by omega]
theorem E7 {k:Nat} : ∀ (rows:List (Option (Nat × List (List AV)))) (i:Nat),(B5 σ k i rows).length=rows.length
 | [],i=>rfl
 | none::r,i=>by simp [B5,E7 r]
 | some (z,es)::r,i=>by simp [B5,E7 r]
theorem kK {k j:Nat} {f:Nat->Nat × Nat} {c:A5} (h:HE k c=false) (hj:j≠k):c.j5 (C4 σ k f) j=c.j5 σ j:=by
 cases c with
 | bx cs=>simp only[HE]at h;simp only[A5.j5,eE h]
 | rw z es=>rfl
 | bs z es=>simp only[HE]at h;simp only[A5.j5,vL h]
 | mx rows=>simp only[A5.j5];rw[ZV rows 0 λ i _=>by rw[CS f hj]]
 | hx a v rows=>simp only[A5.j5];rw[ZV rows 0 λ i _=>by rw[CS f hj]]
 | vw w rows=>simp only[A5.j5];rw[ZV rows 0 λ i _=>by rw[CS f hj]]
theorem Ag2 {v:AV} (h:wi v=true):A7 σ v=v:=by cases v<;>first|rfl|cases h
theorem I0 : ∀ {cs:List AV},D8 cs=true->cs.map (A7 σ)=cs
 | [],_=>rfl
 | c::r,h=>by
  simp only[D8]at h;cases h1:wi c<;>simp only[h1,cond_true,cond_false]at h
  ·cases h
  ·rw[List.map_cons,Ag2 h1,I0 h]
theorem Ag1 {k:Nat} {v:AV} (h:wi v=true):WM k v=false:=by cases v<;>first|rfl|cases h
theorem qA {k:Nat} : ∀ {cs:List AV},D8 cs=true->II k cs=false
 | [],_=>rfl
 | c::r,h=>by
  simp only[D8]at h;cases h1:wi c<;>simp only[h1,cond_true,cond_false]at h
  ·cases h
  ·simp only[II,Ag1 h1,qA h,cond_false]
theorem AgV (v:AV):cv v = .any\/(cv v=v/\BG σ v=v):=by
 cases v with
 | agg cs =>
  simp only[cv];cases h:D8 cs
  ·exact Or.inl rfl
  ·exact Or.inr ⟨rfl,by simp only[BG,BS,I0 h]⟩
 | j9 vs=>cases vs with
  | nil=>exact Or.inr ⟨rfl,rfl⟩
  | cons=>exact Or.inl rfl
 | fn p f g cs=>cases cs with
  | nil=>exact Or.inr ⟨rfl,rfl⟩
  | cons=>exact Or.inl rfl
 | _=>first|exact Or.inl rfl|exact Or.inr ⟨rfl,rfl⟩
theorem AgS {k:Nat} (v:AV):WN k (cv v)=false:=by
 cases v with
 | agg cs =>
  simp only[cv];cases h:D8 cs
  ·rfl
  ·exact qA h
 | j9 vs=>cases vs<;>rfl
 | fn p f g cs=>cases cs<;>rfl
 | _=>rfl
variable {tm:Tm} {M:Mem} {st:St}
theorem RX.ev (h:RX σ tm M st) {x:AQ} {v:AV} (e:ex tm x=v) (hv:v ≠ .any):st.ev x=BG σ v:=by
 cases x with
 | t n =>
  simp only[ex]at e;rcases h.tm n with h|h
  ·exact absurd (e.symm.trans h) hv
  ·rw[e]at h;exact h
 | c u =>
  simp only[ex]at e;rcases AgV (σ:=σ) u with h|⟨h,h'⟩
  ·exact absurd (e.symm.trans h) hv
  ·rw[<-e,h,h'];rfl
theorem Ql {k:Nat} (h:IJ k tm=false) (x:AQ):WN k (ex tm x)=false:=by
 cases x with
 | t n=>exact dZ h n
 | c u=>exact AgS u
theorem Wk {k:Nat} {v:AV} {cs:List AV} (h:WN k v=false) (e:cellsOf v=some cs):II k cs=false:=by
 cases v<;>simp only[cellsOf,Option.some.injEq,reduceCtorEq]at e<;>subst e<;>first|exact h|rfl|(simp only[WN,Y1]at h;simp only[II,h,cond_false])
theorem XG {v:AV} {cs:List AV} (e:cellsOf v=some cs):cellsOf (BG σ v)=some (cs.map (A7 σ)):=by
 cases v<;>simp only[cellsOf,Option.some.injEq,reduceCtorEq]at e<;>subst e<;>rfl
def A5.flat:A5->Prop
 | .mx rows => ∀ (i:Nat) (x:Nat × List (List AV)),rows[i]? = some (some x)->False
 | .hx _ _ _=>False
 | .vw _ _=>False
 | _=>True
theorem DZ {M:Mem} {k s:Nat} {c:A5} (h:g9 M k=some (s,c)):c7 M k 0=some c:=by simp [c7,h]
theorem HU {M:Mem} {k t:Nat} {c:A5} (h:c7 M k t=some c) : ∃ s c0,g9 M k=some (s,c0)/\(t=0->c=c0)/\(∀ i,t=i+1 -> ∃ rows z es,((c0 = .mx rows \/ ∃ a v,c0 = .hx a v rows) \/ ∃ w,c0 = .vw w rows)/\rows[i]? = some (some (z,es))/\c = .rw z es):=by
 unfold c7 at h;cases hm:g9 M k with
 | none=>simp [hm]at h
 | some x =>
  obtain ⟨s,c0⟩:=x;simp only[hm]at h;refine ⟨s,c0,rfl,?_,?_⟩
  ·rintro rfl;exact (Option.some.inj h).symm
  ·rintro i rfl
   cases c0 with
   | mx rows =>
    simp only at h;cases hr:rows[i]? with
    | none=>simp [hr]at h
    | some r =>
     cases r with
     | none=>simp [hr]at h
     | some ze=>obtain ⟨z,es⟩:=ze;simp only[hr,Option.some.injEq]at h;exact ⟨rows,z,es,Or.inl (Or.inl rfl),hr,h.symm⟩
   | hx a v rows =>
    simp only at h;cases hr:rows[i]? with
    | none=>simp [hr]at h
    | some r =>
     cases r with
     | none=>simp [hr]at h
     | some ze=>obtain ⟨z,es⟩:=ze;simp only[hr,Option.some.injEq]at h;exact ⟨rows,z,es,Or.inl (Or.inr ⟨a,v,rfl⟩),hr,h.symm⟩
   | vw w rows =>
    simp only at h;cases hr:rows[i]? with
    | none=>simp [hr]at h
    | some r =>
     cases r with
     | none=>simp [hr]at h
     | some ze=>obtain ⟨z,es⟩:=ze;simp only[hr,Option.some.injEq]at h;exact ⟨rows,z,es,Or.inr ⟨w,rfl⟩,hr,h.symm⟩
   | _=>simp at h
theorem PN {M:Mem} {k s:Nat} {c:A5} {j t:Nat} (h:j≠k):c7 ((k,s,c)::M) j t=c7 M j t:=by
 simp only[c7,g9,FK.2 h,cond_false]
theorem ZT {M:Mem} {k s:Nat} {c:A5}:c7 ((k,s,c)::M) k 0=some c:=by simp [c7,g9]
theorem dS {M:Mem} {k s:Nat} {c:A5} (hc:c.flat) {t:Nat} {c':A5} (h:c7 ((k,s,c)::M) k t=some c'):t=0/\c'=c:=by
 cases t with
 | zero=>rw[ZT]at h;exact ⟨rfl,(Option.some.inj h).symm⟩
 | succ i =>
  simp only[c7,g9,Nat.beq_refl,cond_true]at h;cases c with
  | mx rows =>
   simp only at h;split at h
   ·rename_i z es hr
    exact (hc i (z,es) hr).elim
   ·cases h
  | hx a v rows=>exact hc.elim
  | vw w rows=>exact hc.elim
  | _=>simp at h
theorem AlY {σ σ':FP} {k k':Nat} {rows:List (Option (Nat × List (List AV)))} (h:A5.flat (.mx rows)):B5 σ k 0 rows=B5 σ' k' 0 rows:=by
 apply List.ext_getElem?;intro j;rw[E6,E6];cases hr:rows[j]? with
 | none=>rfl
 | some r=>cases r with
  | none=>rfl
  | some x=>exact (h j x hr).elim
theorem RX.gx (h:RX σ tm M st) {s q:Nat} (hm:G2 s M=false) (ht:IJ s tm=false) (c:A5) (hf:c.flat) (hc:HE s c=false) (hl:c.pn=true->EY q=true) :
  RX (C4 σ s λ_=>(q,st.own.k6 q)) tm ((s,q,c)::M) ⟨st.tm,st.own.put q ((st.own q).new (c.j5 σ s))⟩:=by
 have Nx : ∀ j t c',c7 M j t=some c'->((st.own.put q ((st.own q).new (c.j5 σ s))) (σ j t).1).j5 (σ j t).2=(st.own (σ j t).1).j5 (σ j t).2:=by
  intro j t c' e;by_cases hs:(σ j t).1=q
  ·have ho:=h.sat.old _ _ _ e
   rw[hs]at ho ⊢;simp only[AH.k9,CH.new];rw[if_neg (by omega)]
  ·rw[AH.jf _ _ _ _ hs]
 have Dd : ∀ s',(st.own s').k6<=((st.own.put q ((st.own q).new (c.j5 σ s))) s').k6:=by
  intro s';by_cases hs:s'=q
  ·subst hs;simp only[AH.k9,CH.new];omega
  ·rw[AH.jf _ _ _ _ hs];exact Nat.le_refl _
 have m9 : ∀ j t c',j≠s->c7 ((s,q,c)::M) j t=some c'->c7 M j t=some c':=λ j t c' hj e=>by rwa [PN hj]at e
 have Dv : ∀ j t c',c7 M j t=some c'->HE s c'=false/\j≠s:=by
  intro j t c' e;obtain ⟨s1,c0,g1,g2,g3⟩:=HU e;obtain ⟨g4,g5⟩:=X0 hm _ _ _ g1;refine ⟨?_,g4⟩;cases t with
  | zero=>rw[g2 rfl];exact g5
  | succ i=>obtain ⟨rows,z,es,_,_,rfl⟩:=g3 i rfl;rfl
 refine ⟨λ j => ?_,⟨?_,?_,?_,?_,?_⟩⟩
 ·rw[nU (dZ ht j)];exact h.tm j
 ·intro j s' c' e
  simp only[g9]at e;cases hb:Nat.beq j s<;>simp only[hb,cond_true,cond_false]at e
  ·rw[CS _ (FK.1 hb)];exact h.sat.site _ _ _ e
  ·simp only[Option.some.injEq,Prod.mk.injEq]at e
   obtain ⟨rfl,rfl⟩:=e;rw[BL.1 hb,BV]
 ·intro j t c' e
  by_cases hj:j=s
  ·subst hj
   obtain ⟨rfl,rfl⟩:=dS hf e;have hb:c'.j5 (C4 σ j λ_=>(q,st.own.k6 q)) j=c'.j5 σ j:=by
    cases c' with
    | bx cs=>simp only[HE]at hc;simp only[A5.j5,eE hc]
    | rw z es=>rfl
    | bs z es=>simp only[HE]at hc;simp only[A5.j5,vL hc]
    | mx rows=>exact congrArg (ED.mk 1) (AlY hf)
    | hx a v rows=>exact hf.elim
    | vw w rows=>exact hf.elim
   rw[BV,hb];simp [AH.k9,CH.new,AH.k6]
  ·have e':=m9 j t c' hj e
   rw[CS _ hj,kK (Dv j t c' e').1 hj];exact (Nx j t c' e').trans (h.sat.j5 _ _ _ e')
 ·intro j t c' e
  by_cases hj:j=s
  ·subst hj
   rw[BV];simp [AH.k9,CH.new,AH.k6]
  ·have e':=m9 j t c' hj e
   rw[CS _ hj];exact Nat.lt_of_lt_of_le (h.sat.old _ _ _ e') (Dd _)
 ·have oo : ∀ j t c',c7 M j t=some c'->σ j t=(q,st.own.k6 q)->False:=by
   intro j t c' e hh;have h2:=h.sat.old _ _ _ e;rw[hh]at h2;exact absurd h2 (Nat.lt_irrefl _)
  intro j t j' t' c1 c2 e1 e2 hj;by_cases h1:j=s<;>by_cases h2:j'=s
  ·subst h1;subst h2
   exact ⟨rfl,(dS hf e1).1.trans (dS hf e2).1.symm⟩
  ·subst h1
   rw[BV,CS _ h2]at hj;exact (oo _ _ _ (m9 _ _ _ h2 e2) hj.symm).elim
  ·subst h2
   rw[BV,CS _ h1]at hj;exact (oo _ _ _ (m9 _ _ _ h1 e1) hj).elim
  ·rw[CS _ h1,CS _ h2]at hj
   exact h.sat.inj _ _ _ _ _ _ (m9 _ _ _ h1 e1) (m9 _ _ _ h2 e2) hj
 ·intro j t c' e hw
  by_cases hj:j=s
  ·subst hj
   obtain ⟨rfl,rfl⟩:=dS hf e;rw[BV];exact hl hw
  ·rw[CS _ hj];exact h.sat.low _ _ _ (m9 j t c' hj e) hw
theorem XX {k j:Nat} {x:Nat × A5} : ∀ {M:Mem},g9 (u5 k M) j=some x->j≠k/\g9 M j=some x
 | [],e=>by cases e
 | (i,s,c)::r,e=>by
  simp only[u5]at e;cases hb:Nat.beq k i<;>simp only[hb,cond_true,cond_false]at e
  ·simp only[g9]at e ⊢
   cases hj:Nat.beq j i<;>simp only[hj,cond_true,cond_false]at e ⊢
   ·exact XX e
   ·exact ⟨λ e'=>FK.1 hb (e'.symm.trans (BL.1 hj)),e⟩
  ·obtain ⟨h1,h2⟩:=XX e
   refine ⟨h1,?_⟩;simp only[g9];rw[FK.2 (λ e'=>h1 (e'.trans (BL.1 hb).symm))];exact h2
theorem bJ {own:AH} {p:Nat × Nat} {x:Option ED} {q:Nat × Nat} (h:q≠p):((own.put p.1 ((own p.1).u7 p.2 x)) q.1).j5 q.2=(own q.1).j5 q.2:=by
 by_cases hs:q.1=p.1
 ·rw[hs,AH.k9]
  simp only[CH.u7];rw[if_neg (λ e=>h (Prod.ext hs e))]
 ·rw[AH.jf _ _ _ _ hs]
theorem nB {own:AH} {p:Nat × Nat} {x:Option ED}:((own.put p.1 ((own p.1).u7 p.2 x)) p.1).j5 p.2=x:=by simp [AH.k9,CH.u7]
theorem iO {own:AH} {p:Nat × Nat} {x:Option ED} (s:Nat):((own.put p.1 ((own p.1).u7 p.2 x)) s).k6=(own s).k6:=by
 by_cases hs:s=p.1
 ·subst hs;rw[AH.k9];rfl
 ·rw[AH.jf _ _ _ _ hs]
theorem RX.Qa (h:RX σ tm M st) {k s:Nat} {c:A5} (e:g9 M k=some (s,c)) (hf:c.flat) (c':A5) (oy:c'.flat) (hir:c'.pn=true->c.pn=true) :
  RX σ tm ((k,s,c')::M) ⟨st.tm,st.own.put s ((st.own s).u7 (σ k 0).2 (some (c'.j5 σ k)))⟩:=by
 have hs:=h.sat.site _ _ _ e;subst hs;have e0:=DZ e;have hg : ∀ j t c1,c7 ((k,(σ k 0).1,c')::M) j t=some c1->(j=k/\t=0/\c1=c')\/(j≠k/\c7 M j t=some c1):=by
  intro j t c1 e1;by_cases hj:j=k
  ·subst hj
   obtain ⟨rfl,rfl⟩:=dS oy e1;exact Or.inl ⟨rfl,rfl,rfl⟩
  ·rw[PN hj]at e1
   exact Or.inr ⟨hj,e1⟩
 have tk : ∀ j t c1,c7 ((k,(σ k 0).1,c')::M) j t=some c1 -> ∃ c2,c7 M j t=some c2:=by
  intro j t c1 e1;rcases hg j t c1 e1 with ⟨rfl,rfl,rfl⟩|⟨_,h2⟩
  ·exact ⟨c,e0⟩
  ·exact ⟨c1,h2⟩
 refine ⟨h.tm,⟨?_,?_,?_,?_,?_⟩⟩
 ·intro j s' c1 e1
  simp only[g9]at e1;cases hb:Nat.beq j k<;>simp only[hb,cond_true,cond_false]at e1
  ·exact h.sat.site _ _ _ e1
  ·simp only[Option.some.injEq,Prod.mk.injEq]at e1
   rw[BL.1 hb];exact e1.1
 ·intro j t c1 e1
  rcases hg j t c1 e1 with ⟨rfl,rfl,rfl⟩|⟨h1,h2⟩
  ·exact nB
  ·refine (bJ (λ he => ?_)).trans (h.sat.j5 _ _ _ h2)
   exact h1 (h.sat.inj _ _ _ _ _ _ h2 e0 he).1
 ·intro j t c1 e1
  obtain ⟨c2,e2⟩:=tk _ _ _ e1;show (σ j t).2<((st.own.put (σ k 0).1 ((st.own (σ k 0).1).u7 (σ k 0).2 (some (c'.j5 σ k)))) (σ j t).1).k6;rw[iO];exact h.sat.old _ _ _ e2
 ·intro j t j' t' c1 c2 e1 e2 hj
  obtain ⟨_,Fs⟩:=tk _ _ _ e1;obtain ⟨_,Ch⟩:=tk _ _ _ e2;exact h.sat.inj _ _ _ _ _ _ Fs Ch hj
 ·intro j t c1 e1 hw
  rcases hg j t c1 e1 with ⟨rfl,rfl,rfl⟩|⟨_,h2⟩
  ·exact h.sat.low _ _ _ e0 (hir hw)
  ·exact h.sat.low _ _ _ h2 hw
theorem mM {k t:Nat} {c:A5} (h:c7 M k (t+1)=some c):c.pn=true:=by
 obtain ⟨_,_,_,_,g3⟩:=HU h;obtain ⟨_,_,_,_,_,rfl⟩:=g3 t rfl;rfl
theorem TW {k j t:Nat} {c:A5} (h:c7 (u5 k M) j t=some c):j≠k/\c7 M j t=some c:=by
 obtain ⟨s,c0,g1,_⟩:=HU h;obtain ⟨h1,h2⟩:=XX g1;refine ⟨h1,?_⟩;unfold c7 at h ⊢;rw[g1]at h;rw[h2];exact h
theorem RX.kill (h:RX σ tm M st) {k s:Nat} {c:A5} (e:g9 M k=some (s,c)) :
  RX σ tm (u5 k M) ⟨st.tm,st.own.put s ((st.own s).u7 (σ k 0).2 none)⟩:=by
 have hs:=h.sat.site _ _ _ e;subst hs;have e0:=DZ e;refine ⟨h.tm,⟨?_,?_,?_,?_,?_⟩⟩
 ·intro j s' c1 e1
  exact h.sat.site _ _ _ (XX e1).2
 ·intro j t c1 e1
  obtain ⟨hj,e1⟩:=TW e1;refine (bJ (λ he => ?_)).trans (h.sat.j5 _ _ _ e1);exact hj (h.sat.inj _ _ _ _ _ _ e1 e0 he).1
 ·intro j t c1 e1
  obtain ⟨hj,e1⟩:=TW e1;show (σ j t).2<((st.own.put (σ k 0).1 ((st.own (σ k 0).1).u7 (σ k 0).2 none)) (σ j t).1).k6;rw[iO];exact h.sat.old _ _ _ e1
 ·intro j t j' t' c1 c2 e1 e2 hj
  exact h.sat.inj _ _ _ _ _ _ (TW e1).2 (TW e2).2 hj
 ·intro j t c1 e1 hw
  exact h.sat.low _ _ _ (TW e1).2 hw
theorem RX.Py (h:RX σ tm M st) {k s i z:Nat} {rows:List (Option (Nat × List (List AV)))} {es es':List (List AV)} (e:g9 M k=some (s,.mx rows)) (hr:rows[i]? = some (some (z,es))) (hl:es'.length=es.length) :
  RX σ tm ((k,s,.mx (rows.set i (some (z,es'))))::M) ⟨st.tm,st.own.put (σ k (i+1)).1 ((st.own (σ k (i+1)).1).u7 (σ k (i+1)).2 (some ⟨z,es'⟩))⟩:=by
 have e1:c7 M k (i+1)=some (.rw z es):=by simp [c7,e,hr]
 have hi:i<rows.length:=(zS hr).1;have mj:B5 σ k 0 (rows.set i (some (z,es')))=B5 σ k 0 rows:=by
  apply List.ext_getElem?;intro j;rw[E6,E6];by_cases hj:i=j
  ·subst hj;rw[List.getElem?_set_self hi,hr];simp [hl]
  ·rw[List.getElem?_set_ne hj]
 have hg : ∀ j t c1,c7 ((k,s,.mx (rows.set i (some (z,es'))))::M) j t=some c1->(j=k/\t=i+1/\c1 = .rw z es')\/(¬ (j=k/\t=i+1) /\ ∃ c2,c7 M j t=some c2/\c2.j5 σ j=c1.j5 σ j):=by
  intro j t c1 g;by_cases hj:j=k
  ·subst hj
   cases t with
   | zero =>
    rw[ZT]at g;obtain rfl:=Option.some.inj g;exact Or.inr ⟨by omega,_,DZ e,by simp only[A5.j5,mj]⟩
   | succ t =>
    simp only[c7,g9,Nat.beq_refl,cond_true]at g;by_cases tt:i=t
    ·subst tt
     rw[List.getElem?_set_self hi]at g;exact Or.inl ⟨rfl,rfl,(Option.some.inj g).symm⟩
    ·rw[List.getElem?_set_ne tt]at g
     refine Or.inr ⟨by omega,c1,?_,rfl⟩;simp only[c7,e];exact g
  ·rw[PN hj]at g
   exact Or.inr ⟨by omega,c1,g,rfl⟩
 have tk : ∀ j t c1,c7 ((k,s,.mx (rows.set i (some (z,es'))))::M) j t=some c1 -> ∃ c2,c7 M j t=some c2:=by
  intro j t c1 g;rcases hg j t c1 g with ⟨rfl,rfl,rfl⟩|⟨_,c2,h2,_⟩
  ·exact ⟨_,e1⟩
  ·exact ⟨c2,h2⟩
 refine ⟨h.tm,⟨?_,?_,?_,?_,?_⟩⟩
 ·intro j s' c1 g
  simp only[g9]at g;cases hb:Nat.beq j k<;>simp only[hb,cond_true,cond_false]at g
  ·exact h.sat.site _ _ _ g
  ·simp only[Option.some.injEq,Prod.mk.injEq]at g
   rw[BL.1 hb,<-g.1];exact h.sat.site _ _ _ e
 ·intro j t c1 g
  rcases hg j t c1 g with ⟨rfl,rfl,rfl⟩|⟨h1,c2,h2,h3⟩
  ·exact nB
  ·rw[<-h3]
   refine (bJ (λ he => ?_)).trans (h.sat.j5 _ _ _ h2);exact h1 (h.sat.inj _ _ _ _ _ _ h2 e1 he)
 ·intro j t c1 g
  obtain ⟨c2,e2⟩:=tk _ _ _ g;show (σ j t).2<((st.own.put (σ k (i+1)).1 ((st.own (σ k (i+1)).1).u7 (σ k (i+1)).2 (some ⟨z,es'⟩))) (σ j t).1).k6;rw[iO];exact h.sat.old _ _ _ e2
 ·intro j t j' t' c1 c2 g1 g2 hj
  obtain ⟨_,Fs⟩:=tk _ _ _ g1;obtain ⟨_,Ch⟩:=tk _ _ _ g2;exact h.sat.inj _ _ _ _ _ _ Fs Ch hj
 ·intro j t c1 g hw
  obtain ⟨c2,e2⟩:=tk _ _ _ g;cases t with
  | zero =>
   by_cases hj:j=k
   ·subst hj;exact h.sat.low _ _ _ (DZ e) rfl
   ·rw[PN hj]at g;exact h.sat.low _ _ _ g hw
  | succ t=>exact h.sat.low _ _ _ e2 (mM e2)
section
variable {k:Nat} {f:Nat->Nat × Nat}
theorem vM {v:AV} (hf:f 0=σ k 0) (h:YF k v=false):A7 (C4 σ k f) v=A7 σ v:=by
 cases v with
 | row j t z o n =>
  simp only[YF]at h;cases hb:Nat.beq j k
  ·simp only[A7,CS f (FK.1 hb)]
  ·obtain rfl:=BL.1 hb
   simp only[hb,cond_true]at h;cases t with
   | zero=>simp only[A7,BV,hf]
   | succ t=>cases h
 | ptr j t a b =>
  simp only[YF]at h;cases hb:Nat.beq j k
  ·simp only[A7,CS f (FK.1 hb)]
  ·obtain rfl:=BL.1 hb
   simp only[hb,cond_true]at h;cases t with
   | zero=>simp only[A7,BV,hf]
   | succ t=>cases h
 | _=>rfl
theorem iZ (hf:f 0=σ k 0) : ∀ {cs:List AV},XJ k cs=false->cs.map (A7 (C4 σ k f))=cs.map (A7 σ)
 | [],_=>rfl
 | c::r,h=>by
  simp only[XJ]at h;cases h1:YF k c<;>simp only[h1,cond_true,cond_false]at h
  ·rw[List.map_cons,List.map_cons,vM hf h1,iZ hf h]
  ·cases h
theorem Zl (hf:f 0=σ k 0) : ∀ {es:List (List AV)},cO k es=false->(es.map λ cs=>cs.map (A7 (C4 σ k f)))=es.map λ cs=>cs.map (A7 σ)
 | [],_=>rfl
 | c::r,h=>by
  simp only[cO]at h;cases h1:XJ k c<;>simp only[h1,cond_true,cond_false]at h
  ·rw[List.map_cons,List.map_cons,iZ hf h1,Zl hf h]
  ·cases h
theorem jA {v:AV} (hf:f 0=σ k 0) (h:aL k v=false):BS (C4 σ k f) v=BS σ v:=by
 cases v with
 | agg cs=>simp only[aL]at h;simp only[BS,iZ hf h]
 | fn p f g cs=>simp only[aL]at h;simp only[BS,iZ hf h]
 | row a b c d e=>exact vM (v := .row a b c d e) hf h
 | ptr a b c d=>exact vM (v := .ptr a b c d) hf h
 | _=>rfl
theorem Zm (hf:f 0=σ k 0) : ∀ {cs:List AV},cN k cs=false->cs.map (BS (C4 σ k f))=cs.map (BS σ)
 | [],_=>rfl
 | c::r,h=>by
  simp only[cN]at h;cases h1:aL k c<;>simp only[h1,cond_true,cond_false]at h
  ·rw[List.map_cons,List.map_cons,jA hf h1,Zm hf h]
  ·cases h
theorem Zo {v:AV} (hf:f 0=σ k 0) (h:ZG k v=false):BG (C4 σ k f) v=BG σ v:=by
 cases v with
 | j9 cs=>simp only[ZG]at h;simp only[BG,Zm hf h]
 | agg cs=>exact jA (v := .agg cs) hf h
 | fn p f g cs=>exact jA (v := .fn p f g cs) hf h
 | row a b c d e=>exact jA (v := .row a b c d e) hf h
 | ptr a b c d=>exact jA (v := .ptr a b c d) hf h
 | _=>rfl
theorem pJ : ∀ {tm:Tm},K6 k tm=false -> ∀ j,ZG k (tg tm j)=false
 | [],_,_=>rfl
 | (i,v)::r,h,j=>by
  simp only[K6]at h;cases h1:ZG k v<;>simp only[h1,cond_true,cond_false]at h
  ·simp only[tg]
   cases Nat.beq j i
   ·exact pJ h j
   ·exact h1
  ·cases h
theorem pI : ∀ {M:Mem},IV k M=false -> ∀ j s c,g9 M j=some (s,c)->XH k c=false
 | [],_,_,_,_,e=>by cases e
 | (i,s0,c0)::r,h,j,s,c,e=>by
  simp only[IV]at h;cases h1:XH k c0<;>simp only[h1,cond_true,cond_false]at h
  ·simp only[g9]at e
   cases h2:Nat.beq j i<;>simp only[h2,cond_true,cond_false]at e
   ·exact pI h j s c e
   ·simp only[Option.some.injEq,Prod.mk.injEq]at e
    obtain ⟨_,rfl⟩:=e;exact h1
  ·cases h
theorem xS {c:A5} {j:Nat} (hf:f 0=σ k 0) (h:XH k c=false) (hj:j≠k):c.j5 (C4 σ k f) j=c.j5 σ j:=by
 cases c with
 | bx cs=>simp only[XH]at h;simp only[A5.j5,iZ hf h]
 | rw z es=>rfl
 | bs z es=>simp only[XH]at h;simp only[A5.j5,Zl hf h]
 | mx rows=>simp only[A5.j5];rw[ZV rows 0 λ i _=>by rw[CS f hj]]
 | hx a v rows=>simp only[A5.j5];rw[ZV rows 0 λ i _=>by rw[CS f hj]]
 | vw w rows=>simp only[A5.j5];rw[ZV rows 0 λ i _=>by rw[CS f hj]]
end
theorem RX.Ee (h:RX σ tm M st) {k k2 s s2 i z:Nat} {rows:List (Option (Nat × List (List AV)))} {es:List (List AV)} {c0:A5} (e:g9 M k=some (s,c0)) (ko:c0 = .mx rows \/ ∃ v,c0 = .hx i v rows) (e2:g9 M k2=some (s2,.rw z es)) (hk:k≠k2) (dk:K6 k tm=false) (ox:IV k M=false) (hi:i<rows.length) :
  RX (C4 σ k λ t=>if t=i+1 then σ k2 0 else σ k t) tm ((k,s,.mx (rows.set i (some (z,es))))::u5 k2 M) ⟨st.tm,st.own.put s ((st.own s).u7 (σ k 0).2 (some ⟨1,(B5 σ k 0 rows).set i [.row (σ k2 0).1 (σ k2 0).2 z 0 es.length]⟩))⟩:=by
 have hs:=h.sat.site _ _ _ e;subst hs;have r0:=DZ e;have r2:=DZ e2;have f0:(λ t=>if t=i+1 then σ k2 0 else σ k t) 0=σ k 0:=by simp
 have mj:B5 (C4 σ k λ t=>if t=i+1 then σ k2 0 else σ k t) k 0 (rows.set i (some (z,es)))=(B5 σ k 0 rows).set i [.row (σ k2 0).1 (σ k2 0).2 z 0 es.length]:=by
  apply List.ext_getElem?;intro j;rw[E6,BV];by_cases hj:i=j
  ·subst hj
   rw[List.getElem?_set_self hi,List.getElem?_set_self (by rw[E7];exact hi)];simp
  ·rw[List.getElem?_set_ne hj,List.getElem?_set_ne hj,E6]
   congr 1;funext r
   cases r with
   | none=>rfl
   | some x=>simp only[Nat.zero_add];rw[if_neg (by omega)]
 have hg : ∀ j t c,c7 ((k,(σ k 0).1,.mx (rows.set i (some (z,es))))::u5 k2 M) j t=some c ->
   (j=k/\t=0/\c = .mx (rows.set i (some (z,es))))\/(j=k/\t=i+1/\c = .rw z es)\/(j=k/\t≠0/\t≠i+1/\c7 M k t=some c)\/(j≠k/\j≠k2/\c7 M j t=some c):=by
  intro j t c g;by_cases hj:j=k
  ·subst hj
   cases t with
   | zero=>rw[ZT]at g;exact Or.inl ⟨rfl,rfl,(Option.some.inj g).symm⟩
   | succ t =>
    simp only[c7,g9,Nat.beq_refl,cond_true]at g;by_cases tt:i=t
    ·subst tt
     rw[List.getElem?_set_self hi]at g;exact Or.inr (Or.inl ⟨rfl,rfl,(Option.some.inj g).symm⟩)
    ·rw[List.getElem?_set_ne tt]at g
     refine Or.inr (Or.inr (Or.inl ⟨rfl,by omega,by omega,?_⟩));rcases ko with rfl|⟨v,rfl⟩
     ·simp only[c7,e]
      exact g
     ·simp only[c7,e]
      exact g
  ·rw[PN hj]at g
   obtain ⟨g1,g2⟩:=TW g;exact Or.inr (Or.inr (Or.inr ⟨hj,g1,g2⟩))
 have Md : ∀ j t c,c7 M j t=some c->XH k c=false:=by
  intro j t c g;obtain ⟨s1,c0,g1,g2,g3⟩:=HU g;cases t with
  | zero=>rw[g2 rfl];exact pI ox _ _ _ g1
  | succ t=>obtain ⟨_,_,_,_,_,rfl⟩:=g3 t rfl;rfl
 refine ⟨λ j => ?_,⟨?_,?_,?_,?_,?_⟩⟩
 ·rw[Zo (f:=λ t=>if t=i+1 then σ k2 0 else σ k t) f0 (pJ dk j)];exact h.tm j
 ·intro j s' c g
  simp only[g9]at g;cases hb:Nat.beq j k<;>simp only[hb,cond_true,cond_false]at g
  ·rw[CS _ (FK.1 hb)];exact h.sat.site _ _ _ (XX g).2
  ·simp only[Option.some.injEq,Prod.mk.injEq]at g
   rw[BL.1 hb,BV,<-g.1];simp
 ·intro j t c g
  rcases hg j t c g with ⟨rfl,rfl,rfl⟩|⟨rfl,rfl,rfl⟩|⟨rfl,h0,h1,g2⟩|⟨h0,h1,g2⟩
  ·rw[BV]
   simp only[A5.j5,mj];exact nB
  ·rw[BV]
   simp only[if_true];exact (bJ (λ he=>hk (h.sat.inj _ _ _ _ _ _ r2 r0 he).1.symm)).trans (h.sat.j5 _ _ _ r2)
  ·rw[BV]
   simp only[h1,if_false];have hb:c.j5 (C4 σ j λ t=>if t=i+1 then σ k2 0 else σ j t) j=c.j5 σ j:=by
    obtain ⟨_,_,_,_,g3⟩:=HU g2;obtain ⟨t',rfl⟩ : ∃ t',t=t'+1:=⟨t-1,by omega⟩;obtain ⟨_,_,_,_,_,rfl⟩:=g3 t' rfl;rfl
   rw[hb];exact (bJ (λ he=>h0 (h.sat.inj _ _ _ _ _ _ g2 r0 he).2)).trans (h.sat.j5 _ _ _ g2)
  ·rw[CS _ h0,xS (f:=λ t=>if t=i+1 then σ k2 0 else σ k t) f0 (Md _ _ _ g2) h0]
   exact (bJ (λ he=>h0 (h.sat.inj _ _ _ _ _ _ g2 r0 he).1)).trans (h.sat.j5 _ _ _ g2)
 ·intro j t c g
  rw[iO];rcases hg j t c g with ⟨rfl,rfl,rfl⟩|⟨rfl,rfl,rfl⟩|⟨rfl,h0,h1,g2⟩|⟨h0,h1,g2⟩
  ·rw[BV];simpa using h.sat.old _ _ _ r0
  ·rw[BV];simpa using h.sat.old _ _ _ r2
  ·rw[BV];simp only[h1,if_false];exact h.sat.old _ _ _ g2
  ·rw[CS _ h0];exact h.sat.old _ _ _ g2
 ·-- each name is that of Fi in the old memory
  have hold : ∀ j t c,c7 ((k,(σ k 0).1,.mx (rows.set i (some (z,es))))::u5 k2 M) j t=some c -> ∃ j0 t0 c0,c7 M j0 t0=some c0/\(C4 σ k λ t=>if t=i+1 then σ k2 0 else σ k t) j t=σ j0 t0/\((j0=k2/\t0=0/\j=k/\t=i+1)\/(j0=j/\t0=t/\j≠k2)):=by
   intro j t c g;rcases hg j t c g with ⟨rfl,rfl,rfl⟩|⟨rfl,rfl,rfl⟩|⟨rfl,h0,h1,g2⟩|⟨h0,h1,g2⟩
   ·exact ⟨_,_,_,r0,by rw[BV];simp,Or.inr ⟨rfl,rfl,hk⟩⟩
   ·exact ⟨_,_,_,r2,by rw[BV];simp,Or.inl ⟨rfl,rfl,rfl,rfl⟩⟩
   ·exact ⟨_,_,_,g2,by rw[BV];simp [h1],Or.inr ⟨rfl,rfl,hk⟩⟩
   ·exact ⟨_,_,_,g2,by rw[CS _ h0],Or.inr ⟨rfl,rfl,h1⟩⟩
  intro j t j' t' c c' g g' hj;obtain ⟨j0,t0,c0,a1,a2,a3⟩:=hold j t c g;obtain ⟨j1,t1,c1,b1,b2,b3⟩:=hold j' t' c' g';rw[a2,b2]at hj;obtain ⟨q1,q2⟩:=h.sat.inj _ _ _ _ _ _ a1 b1 hj;rcases a3 with ⟨x1,x2,x3,x4⟩|⟨x1,x2,x3⟩<;>rcases b3 with ⟨y1,y2,y3,y4⟩|⟨y1,y2,y3⟩
  ·exact ⟨x3.trans y3.symm,x4.trans y4.symm⟩
  ·exact absurd (y1.symm.trans (q1.symm.trans x1)) y3
  ·exact absurd (x1.symm.trans (q1.trans y1)) x3
  ·exact ⟨x1.symm.trans (q1.trans y1),x2.symm.trans (q2.trans y2)⟩
 ·intro j t c g hw
  rcases hg j t c g with ⟨rfl,rfl,rfl⟩|⟨rfl,rfl,rfl⟩|⟨rfl,h0,h1,g2⟩|⟨h0,h1,g2⟩
  ·rw[BV];simpa using h.sat.low _ _ _ r0 (by rcases ko with rfl|⟨v,rfl⟩<;>rfl)
  ·rw[BV];simpa using h.sat.low _ _ _ r2 rfl
  ·rw[BV];simp only[h1,if_false];exact h.sat.low _ _ _ g2 hw
  ·rw[CS _ h0];exact h.sat.low _ _ _ g2 hw
theorem bC {own:AH} {q t:Nat} {b:ED} {p:Nat × Nat} (h:p≠(q,t)) (ho:p.2<(own p.1).k6):((own.put q (((own q).u7 t none).new b)) p.1).j5 p.2=(own p.1).j5 p.2:=by
 by_cases hs:p.1=q
 ·rw[hs]at ho ⊢
  rw[AH.k9];simp only[CH.new,CH.u7];have h1 : ¬ p.2=(own q).k6:=by omega
  have h2 : ¬ p.2=t:=λ e=>h (Prod.ext hs e)
  simp only[h1,h2,if_false]
 ·rw[AH.jf _ _ _ _ hs]
theorem bD {own:AH} {q t:Nat} {b:ED} (s:Nat):(own s).k6<=((own.put q (((own q).u7 t none).new b)) s).k6:=by
 by_cases hs:s=q
 ·subst hs;rw[AH.k9];simp only[CH.new,CH.u7];omega
 ·rw[AH.jf _ _ _ _ hs];exact Nat.le_refl _
theorem RX.Km (h:RX σ tm M st) {s key sk i z:Nat} {rows:List (Option (Nat × List (List AV)))} {es es':List (List AV)} (e:g9 M key=some (sk,.mx rows)) (hr:rows[i]? = some (some (z,es))) (hm:G2 s M=false) (ht:IJ s tm=false) :
  RX (C4 σ s λ_=>((σ key (i+1)).1,st.own.k6 (σ key (i+1)).1)) tm ((s,(σ key (i+1)).1,.rw z es')::(key,sk,.hx i (.row (σ key (i+1)).1 (σ key (i+1)).2 z 0 es.length) (rows.set i none))::u5 key M)
   ⟨st.tm,st.own.put (σ key (i+1)).1 (((st.own (σ key (i+1)).1).u7 (σ key (i+1)).2 none).new ⟨z,es'⟩)⟩:=by
 have r0:=DZ e;have e1:c7 M key (i+1)=some (.rw z es):=by simp [c7,e,hr]
 have hi:i<rows.length:=(zS hr).1;have Hb:key≠s:=(X0 hm _ _ _ e).1;have mj:(B5 (C4 σ s λ_=>((σ key (i+1)).1,st.own.k6 (σ key (i+1)).1)) key 0 (rows.set i none)).set i [.row (σ key (i+1)).1 (σ key (i+1)).2 z 0 es.length]=B5 σ key 0 rows:=by
  apply List.ext_getElem?;intro j;by_cases hj:i=j
  ·subst hj
   rw[List.getElem?_set_self (by rw[E7,List.length_set];exact hi),E6,hr];simp
  ·rw[List.getElem?_set_ne hj,E6,E6,List.getElem?_set_ne hj,CS _ Hb]
 have Dv : ∀ j t c',c7 M j t=some c'->HE s c'=false/\j≠s:=by
  intro j t c' g;obtain ⟨s1,c0,g1,g2,g3⟩:=HU g;obtain ⟨g4,g5⟩:=X0 hm _ _ _ g1;refine ⟨?_,g4⟩;cases t with
  | zero=>rw[g2 rfl];exact g5
  | succ i=>obtain ⟨rows,z,es,_,_,rfl⟩:=g3 i rfl;rfl
 have hg : ∀ j t c,c7 ((s,(σ key (i+1)).1,.rw z es')::(key,sk,.hx i (.row (σ key (i+1)).1 (σ key (i+1)).2 z 0 es.length) (rows.set i none))::u5 key M) j t=some c ->
   (j=s/\t=0/\c = .rw z es')\/(j=key/\t=0/\c = .hx i (.row (σ key (i+1)).1 (σ key (i+1)).2 z 0 es.length) (rows.set i none))\/(j≠s /\ ¬ (j=key/\t=0) /\ ¬ (j=key/\t=i+1)/\(j=key -> ∃ z es,c = .rw z es)/\c7 M j t=some c):=by
  intro j t c g;by_cases hj:j=s
  ·subst hj
   obtain ⟨rfl,rfl⟩:=dS (c := .rw z es') trivial g;exact Or.inl ⟨rfl,rfl,rfl⟩
  ·rw[PN hj]at g
   by_cases hk:j=key
   ·subst hk
    cases t with
    | zero=>rw[ZT]at g;exact Or.inr (Or.inl ⟨rfl,rfl,(Option.some.inj g).symm⟩)
    | succ t =>
     simp only[c7,g9,Nat.beq_refl,cond_true]at g;by_cases tt:i=t
     ·subst tt
      rw[List.getElem?_set_self hi]at g;cases g
     ·rw[List.getElem?_set_ne tt]at g
      refine Or.inr (Or.inr ⟨hj,by omega,by omega,λ_ => ?_,?_⟩)
      ·split at g
       ·exact ⟨_,_,(Option.some.inj g).symm⟩
       ·cases g
      ·simp only[c7,e]
       exact g
   ·rw[PN hk]at g
    obtain ⟨g1,g2⟩:=TW g;exact Or.inr (Or.inr ⟨hj,by omega,by omega,λ h=>absurd h hk,g2⟩)
 refine ⟨λ j => ?_,⟨?_,?_,?_,?_,?_⟩⟩
 ·rw[nU (dZ ht j)];exact h.tm j
 ·intro j s1 c g
  simp only[g9]at g;cases hb:Nat.beq j s<;>simp only[hb,cond_true,cond_false]at g
  ·rw[CS _ (FK.1 hb)]
   cases x8:Nat.beq j key<;>simp only[x8,cond_true,cond_false]at g
   ·exact h.sat.site _ _ _ (XX g).2
   ·simp only[Option.some.injEq,Prod.mk.injEq]at g
    rw[BL.1 x8,<-g.1];exact h.sat.site _ _ _ e
  ·simp only[Option.some.injEq,Prod.mk.injEq]at g
   rw[BL.1 hb,BV,<-g.1]
 ·intro j t c g
  rcases hg j t c g with ⟨rfl,rfl,rfl⟩|⟨rfl,rfl,rfl⟩|⟨h0,h1,h2,h3,g2⟩
  ·rw[BV]
   simp [AH.k9,CH.new,AH.k6,CH.u7,A5.j5]
  ·rw[CS _ Hb]
   simp only[A5.j5,mj];exact (bC (λ he=>absurd (h.sat.inj _ _ _ _ _ _ r0 e1 he).2 (by omega)) (h.sat.old _ _ _ r0)).trans (h.sat.j5 _ _ _ r0)
  ·rw[CS _ h0,kK (Dv _ _ _ g2).1 h0]
   exact (bC (λ he=>h2 (h.sat.inj _ _ _ _ _ _ g2 e1 he)) (h.sat.old _ _ _ g2)).trans (h.sat.j5 _ _ _ g2)
 ·intro j t c g
  rcases hg j t c g with ⟨rfl,rfl,rfl⟩|⟨rfl,rfl,rfl⟩|⟨h0,h1,h2,h3,g2⟩
  ·rw[BV]
   simp [AH.k9,CH.new,AH.k6,CH.u7]
  ·rw[CS _ Hb]
   exact Nat.lt_of_lt_of_le (h.sat.old _ _ _ r0) (bD _)
  ·rw[CS _ h0]
   exact Nat.lt_of_lt_of_le (h.sat.old _ _ _ g2) (bD _)
 ·have hold : ∀ j t c,c7 ((s,(σ key (i+1)).1,.rw z es')::(key,sk,.hx i (.row (σ key (i+1)).1 (σ key (i+1)).2 z 0 es.length) (rows.set i none))::u5 key M) j t=some c->(j=s/\t=0)\/(j≠s /\ ∃ c0,c7 M j t=some c0):=by
   intro j t c g;rcases hg j t c g with ⟨rfl,rfl,rfl⟩|⟨rfl,rfl,rfl⟩|⟨h0,h1,h2,h3,g2⟩
   ·exact Or.inl ⟨rfl,rfl⟩
   ·exact Or.inr ⟨Hb,_,r0⟩
   ·exact Or.inr ⟨h0,_,g2⟩
  have pq : ∀ j0 t0 c0,c7 M j0 t0=some c0->((σ key (i+1)).1,st.own.k6 (σ key (i+1)).1)≠σ j0 t0:=by
   intro j0 t0 c0 g he;have:=h.sat.old _ _ _ g
   rw[<-he]at this;exact absurd this (Nat.lt_irrefl _)
  intro j t j' t' c c' g g' hj;rcases hold j t c g with ⟨rfl,rfl⟩|⟨a1,c1,a2⟩<;>rcases hold j' t' c' g' with ⟨rfl,rfl⟩|⟨b1,c2,b2⟩
  ·exact ⟨rfl,rfl⟩
  ·rw[BV,CS _ b1]at hj;exact absurd hj (pq _ _ _ b2)
  ·rw[BV,CS _ a1]at hj;exact absurd hj.symm (pq _ _ _ a2)
  ·rw[CS _ a1,CS _ b1]at hj
   exact h.sat.inj _ _ _ _ _ _ a2 b2 hj
 ·intro j t c g hw
  rcases hg j t c g with ⟨rfl,rfl,rfl⟩|⟨rfl,rfl,rfl⟩|⟨h0,h1,h2,h3,g2⟩
  ·rw[BV];exact h.sat.low _ _ _ e1 rfl
  ·rw[CS _ Hb];exact h.sat.low _ _ _ r0 rfl
  ·rw[CS _ h0];exact h.sat.low _ _ _ g2 hw
theorem RX.view (h:RX σ tm M st) {k s:Nat} {c0:A5} {rows:List (Option (Nat × List (List AV)))} {w:List Nat} (e:g9 M k=some (s,c0)) (ko:c0 = .mx rows \/ ∃ w0,c0 = .vw w0 rows) :
  RX σ tm ((k,s,.vw w rows)::M) ⟨st.tm,st.own.put s ((st.own s).u7 (σ k 0).2 (some (A5.j5 σ k (.vw w rows))))⟩:=by
 have hs:=h.sat.site _ _ _ e;subst hs;have r0:=DZ e;have hg : ∀ j t c,c7 ((k,(σ k 0).1,.vw w rows)::M) j t=some c->(j=k/\t=0/\c = .vw w rows)\/(¬ (j=k/\t=0)/\c7 M j t=some c):=by
  intro j t c g;by_cases hj:j=k
  ·subst hj
   cases t with
   | zero=>rw[ZT]at g;exact Or.inl ⟨rfl,rfl,(Option.some.inj g).symm⟩
   | succ t =>
    refine Or.inr ⟨by omega,?_⟩;simp only[c7,g9,Nat.beq_refl,cond_true]at g;rcases ko with rfl|⟨w0,rfl⟩
    ·simp only[c7,e]
     exact g
    ·simp only[c7,e]
     exact g
  ·rw[PN hj]at g
   exact Or.inr ⟨by omega,g⟩
 have tk : ∀ j t c1,c7 ((k,(σ k 0).1,.vw w rows)::M) j t=some c1 -> ∃ c2,c7 M j t=some c2:=by
  intro j t c1 g;rcases hg j t c1 g with ⟨rfl,rfl,rfl⟩|⟨_,h2⟩
  ·exact ⟨_,r0⟩
  ·exact ⟨_,h2⟩
 refine ⟨h.tm,⟨?_,?_,?_,?_,?_⟩⟩
 ·intro j s' c1 g
  simp only[g9]at g;cases hb:Nat.beq j k<;>simp only[hb,cond_true,cond_false]at g
  ·exact h.sat.site _ _ _ g
  ·simp only[Option.some.injEq,Prod.mk.injEq]at g
   rw[BL.1 hb];exact g.1
 ·intro j t c1 g
  rcases hg j t c1 g with ⟨rfl,rfl,rfl⟩|⟨h1,h2⟩
  ·exact nB
  ·refine (bJ (λ he => ?_)).trans (h.sat.j5 _ _ _ h2)
   exact h1 (h.sat.inj _ _ _ _ _ _ h2 r0 he)
 ·intro j t c1 g
  obtain ⟨c2,e2⟩:=tk _ _ _ g;show (σ j t).2<((st.own.put (σ k 0).1 ((st.own (σ k 0).1).u7 (σ k 0).2 _)) (σ j t).1).k6;rw[iO];exact h.sat.old _ _ _ e2
 ·intro j t j' t' c1 c2 g1 g2 hj
  obtain ⟨_,Fs⟩:=tk _ _ _ g1;obtain ⟨_,Ch⟩:=tk _ _ _ g2;exact h.sat.inj _ _ _ _ _ _ Fs Ch hj
 ·intro j t c1 g hw
  rcases hg j t c1 g with ⟨rfl,rfl,rfl⟩|⟨_,h2⟩
  ·exact h.sat.low _ _ _ r0 (by rcases ko with rfl|⟨w0,rfl⟩<;>rfl)
  ·exact h.sat.low _ _ _ h2 hw
theorem RX.Eg (h:RX σ tm M st) {k s:Nat} {rows v9:List (Option (Nat × List (List AV)))} {w:List Nat} (e:g9 M k=some (s,.vw w rows)) (hl:v9.length=w.length)
  (hw : ∀ (i t:Nat),w[i]? = some t -> ∃ r,rows[t]? = some r/\v9[i]? = some r) (hi : ∀ (i i' t:Nat),w[i]? = some t->w[i']? = some t->i=i') (dk:K6 k tm=false) (ox:IV k M=false) :
  ∃ σ',RX σ' tm ((k,s,.mx v9)::M) st:=by
 have hs:=h.sat.site _ _ _ e;subst hs;have r0:=DZ e;obtain ⟨f,hf⟩ : ∃ f:Nat->Nat × Nat,f=λ t=>match t with|0=>σ k 0|i+1=>match w[i]? with|some v=>σ k (v+1)|none=>σ k (i+1):=⟨_,rfl⟩
 have f0:f 0=σ k 0:=by rw[hf]
 have f1 : ∀ i v,w[i]? = some v->f (i+1)=σ k (v+1):=λ i v hv=>by rw[hf];simp only[hv]
 have Md : ∀ j t c,c7 M j t=some c->XH k c=false:=by
  intro j t c g;obtain ⟨s1,c0,g1,g2,g3⟩:=HU g;cases t with
  | zero=>rw[g2 rfl];exact pI ox _ _ _ g1
  | succ t=>obtain ⟨_,_,_,_,_,rfl⟩:=g3 t rfl;rfl
 have Fg : ∀ i,i<v9.length -> ∃ v r,w[i]? = some v/\rows[v]? = some r/\v9[i]? = some r:=λ i hi=>by
  obtain ⟨v,hv⟩ : ∃ v,w[i]? = some v:=⟨_,zE (by omega)⟩;obtain ⟨r,h1,h2⟩:=hw i v hv;exact ⟨v,r,hv,h1,h2⟩
 have mj:B5 (C4 σ k f) k 0 v9=w.map λ t=>((B5 σ k 0 rows)[t]?).getD []:=by
  apply List.ext_getElem?;intro i;rw[E6,BV,List.getElem?_map];by_cases ak:i<v9.length
  ·obtain ⟨v,r,h1,h2,h3⟩:=Fg i ak
   rw[h3,h1,Option.map_some,Option.map_some,E6,h2,Option.map_some,Option.getD_some,Nat.zero_add,Nat.zero_add,f1 i v h1]
  ·rw[List.getElem?_eq_none (by omega),List.getElem?_eq_none (by omega)];rfl
 have hg : ∀ j t c,c7 ((k,(σ k 0).1,.mx v9)::M) j t=some c ->
   (j=k/\t=0/\c = .mx v9)\/(∃ i v,j=k/\t=i+1/\w[i]? = some v/\c7 M k (v+1)=some c)\/(j≠k/\c7 M j t=some c):=by
  intro j t c g;by_cases hj:j=k
  ·subst hj
   cases t with
   | zero=>rw[ZT]at g;exact Or.inl ⟨rfl,rfl,(Option.some.inj g).symm⟩
   | succ t =>
    simp only[c7,g9,Nat.beq_refl,cond_true]at g;by_cases cp:t<v9.length
    ·obtain ⟨v,r,h1,h2,h3⟩:=Fg t cp
     refine Or.inr (Or.inl ⟨t,v,rfl,rfl,h1,?_⟩);rw[h3]at g;simp only[c7,e,h2];exact g
    ·rw[List.getElem?_eq_none (by omega)]at g;cases g
  ·rw[PN hj]at g
   exact Or.inr (Or.inr ⟨hj,g⟩)
 have hcr : ∀ v c,c7 M k (v+1)=some c -> ∃ z es,c = .rw z es:=λ v c g=>by
  obtain ⟨_,_,_,_,g3⟩:=HU g;obtain ⟨_,z,es,_,_,rfl⟩:=g3 v rfl;exact ⟨z,es,rfl⟩
 refine ⟨C4 σ k f,λ j => ?_,⟨?_,?_,?_,?_,?_⟩⟩
 ·rw[Zo f0 (pJ dk j)];exact h.tm j
 ·intro j s' c g
  simp only[g9]at g;cases hb:Nat.beq j k<;>simp only[hb,cond_true,cond_false]at g
  ·rw[CS _ (FK.1 hb)];exact h.sat.site _ _ _ g
  ·simp only[Option.some.injEq,Prod.mk.injEq]at g
   rw[BL.1 hb,BV,<-g.1,f0]
 ·intro j t c g
  rcases hg j t c g with ⟨rfl,rfl,rfl⟩|⟨i,v,rfl,rfl,h1,g2⟩|⟨h0,g2⟩
  ·rw[BV,f0]
   have:=h.sat.j5 _ _ _ r0
   simp only[A5.j5,mj]at this ⊢;exact this
  ·rw[BV,f1 i v h1]
   obtain ⟨z,es,rfl⟩:=hcr v c g2;exact h.sat.j5 _ _ _ g2
  ·rw[CS _ h0,xS f0 (Md _ _ _ g2) h0]
   exact h.sat.j5 _ _ _ g2
 ·intro j t c g
  rcases hg j t c g with ⟨rfl,rfl,rfl⟩|⟨i,v,rfl,rfl,h1,g2⟩|⟨h0,g2⟩
  ·rw[BV,f0];exact h.sat.old _ _ _ r0
  ·rw[BV,f1 i v h1];exact h.sat.old _ _ _ g2
  ·rw[CS _ h0];exact h.sat.old _ _ _ g2
 ·have hold : ∀ j t c,c7 ((k,(σ k 0).1,.mx v9)::M) j t=some c -> ∃ j0 t0 c0,c7 M j0 t0=some c0/\(C4 σ k f) j t=σ j0 t0/\((j=k/\j0=k/\((t=0/\t0=0) \/ ∃ i v,t=i+1/\t0=v+1/\w[i]? = some v))\/(j≠k/\j0=j/\t0=t)):=by
   intro j t c g;rcases hg j t c g with ⟨rfl,rfl,rfl⟩|⟨i,v,rfl,rfl,h1,g2⟩|⟨h0,g2⟩
   ·exact ⟨_,_,_,r0,by rw[BV,f0],Or.inl ⟨rfl,rfl,Or.inl ⟨rfl,rfl⟩⟩⟩
   ·exact ⟨_,_,_,g2,by rw[BV,f1 i v h1],Or.inl ⟨rfl,rfl,Or.inr ⟨i,v,rfl,rfl,h1⟩⟩⟩
   ·exact ⟨_,_,_,g2,by rw[CS _ h0],Or.inr ⟨h0,rfl,rfl⟩⟩
  intro j t j' t' c c' g g' hj;obtain ⟨j0,t0,c0,a1,a2,a3⟩:=hold j t c g;obtain ⟨j1,t1,c1,b1,b2,b3⟩:=hold j' t' c' g';rw[a2,b2]at hj;obtain ⟨q1,q2⟩:=h.sat.inj _ _ _ _ _ _ a1 b1 hj;rcases a3 with ⟨x1,x2,x3⟩|⟨x1,x2,x3⟩<;>rcases b3 with ⟨y1,y2,y3⟩|⟨y1,y2,y3⟩
  ·refine ⟨x1.trans y1.symm,?_⟩
   rcases x3 with ⟨x4,x5⟩|⟨i,v,x4,x5,x6⟩<;>rcases y3 with ⟨y4,y5⟩|⟨i',v',y4,y5,y6⟩
   ·omega
   ·omega
   ·omega
   ·obtain rfl:v=v':=by omega
    have:=hi i i' v x6 y6
    omega
  ·exact absurd (y2.symm.trans (q1.symm.trans x2)) y1
  ·exact absurd (x2.symm.trans (q1.trans y2)) x1
  ·exact ⟨x2.symm.trans (q1.trans y2),x3.symm.trans (q2.trans y3)⟩
 ·intro j t c g hw
  rcases hg j t c g with ⟨rfl,rfl,rfl⟩|⟨i,v,rfl,rfl,h1,g2⟩|⟨h0,g2⟩
  ·rw[BV,f0];exact h.sat.low _ _ _ r0 rfl
  ·rw[BV,f1 i v h1];exact h.sat.low _ _ _ g2 (mM g2)
  ·rw[CS _ h0];exact h.sat.low _ _ _ g2 hw
theorem RX.Ko (h:RX σ tm M st) {s key s':Nat} {rows:List (Option (Nat × List (List AV)))} (e:g9 M key=some (s',.mx rows)) (hm:G2 s M=false) (ht:IJ s tm=false) :
  RX (C4 σ s λ t=>match t with|0=>(s',st.own.k6 s')|i+1=>σ key (i+1)) tm ((s,s',.mx (rows++[none]))::u5 key M)
   ⟨st.tm,st.own.put s' (((st.own s').u7 (σ key 0).2 none).new ⟨1,B5 σ key 0 rows++[[.nil]]⟩)⟩:=by
 have hs:=h.sat.site _ _ _ e;subst hs;have r0:=DZ e;generalize hF:(λ t=>match t with|0=>((σ key 0).1,st.own.k6 (σ key 0).1)|i+1=>σ key (i+1):Nat->Nat × Nat)=F;have F0:F 0=((σ key 0).1,st.own.k6 (σ key 0).1):=by rw[<-hF]
 have F1 : ∀ i,F (i+1)=σ key (i+1):=by intro i;rw[<-hF]
 have mj:B5 (C4 σ s F) s 0 (rows++[none])=B5 σ key 0 rows++[[.nil]]:=by
  apply List.ext_getElem?;intro j;rw[E6,BV];rcases Nat.lt_trichotomy j rows.length with hj|hj|hj
  ·rw[List.getElem?_append_left hj,List.getElem?_append_left (by rw[E7];exact hj),E6]
   congr 1;funext r
   cases r with
   | none=>rfl
   | some x=>simp only[Nat.zero_add];rw[F1]
  ·subst hj
   rw[List.getElem?_append_right (Nat.le_refl _),List.getElem?_append_right (by rw[E7];exact Nat.le_refl _),E7];simp
  ·rw[List.getElem?_eq_none (by simp;omega),List.getElem?_eq_none (by simp [E7];omega)];rfl
 have Dv : ∀ j t c',c7 M j t=some c'->HE s c'=false/\j≠s:=by
  intro j t c' g;obtain ⟨s1,c0,g1,g2,g3⟩:=HU g;obtain ⟨g4,g5⟩:=X0 hm _ _ _ g1;refine ⟨?_,g4⟩;cases t with
  | zero=>rw[g2 rfl];exact g5
  | succ i=>obtain ⟨rows,z,es,_,_,rfl⟩:=g3 i rfl;rfl
 have hg : ∀ j t c,c7 ((s,(σ key 0).1,.mx (rows++[none]))::u5 key M) j t=some c ->
   (j=s/\t=0/\c = .mx (rows++[none]))\/(j=s/\t≠0/\c7 M key t=some c)\/(j≠s/\j≠key/\c7 M j t=some c):=by
  intro j t c g;by_cases hj:j=s
  ·subst hj
   cases t with
   | zero=>rw[ZT]at g;exact Or.inl ⟨rfl,rfl,(Option.some.inj g).symm⟩
   | succ t =>
    simp only[c7,g9,Nat.beq_refl,cond_true]at g;rcases Nat.lt_trichotomy t rows.length with ql|ql|ql
    ·rw[List.getElem?_append_left ql]at g
     refine Or.inr (Or.inl ⟨rfl,by omega,?_⟩);simp only[c7,e];exact g
    ·subst ql
     rw[List.getElem?_append_right (Nat.le_refl _),Nat.sub_self]at g;simp at g
    ·rw[List.getElem?_eq_none (by simp;omega)]at g;cases g
  ·rw[PN hj]at g
   obtain ⟨g1,g2⟩:=TW g;exact Or.inr (Or.inr ⟨hj,g1,g2⟩)
 refine ⟨λ j => ?_,⟨?_,?_,?_,?_,?_⟩⟩
 ·rw[nU (dZ ht j)];exact h.tm j
 ·intro j s1 c g
  simp only[g9]at g;cases hb:Nat.beq j s<;>simp only[hb,cond_true,cond_false]at g
  ·rw[CS _ (FK.1 hb)];exact h.sat.site _ _ _ (XX g).2
  ·simp only[Option.some.injEq,Prod.mk.injEq]at g
   rw[BL.1 hb,BV,F0,<-g.1]
 ·intro j t c g
  rcases hg j t c g with ⟨rfl,rfl,rfl⟩|⟨rfl,h0,g2⟩|⟨h0,h1,g2⟩
  ·rw[BV,F0]
   simp only[A5.j5,mj];simp [AH.k9,CH.new,AH.k6,CH.u7]
  ·obtain ⟨t',rfl⟩ : ∃ t',t=t'+1:=⟨t-1,by omega⟩
   rw[BV,F1];have hb:c.j5 (C4 σ j F) j=c.j5 σ key:=by
    obtain ⟨_,_,_,_,g3⟩:=HU g2;obtain ⟨_,_,_,_,_,rfl⟩:=g3 t' rfl;rfl
   rw[hb];exact (bC (λ he=>absurd (h.sat.inj _ _ _ _ _ _ g2 r0 he).2 (by omega)) (h.sat.old _ _ _ g2)).trans (h.sat.j5 _ _ _ g2)
  ·rw[CS _ h0,kK (Dv _ _ _ g2).1 h0]
   exact (bC (λ he=>h1 (h.sat.inj _ _ _ _ _ _ g2 r0 he).1) (h.sat.old _ _ _ g2)).trans (h.sat.j5 _ _ _ g2)
 ·intro j t c g
  rcases hg j t c g with ⟨rfl,rfl,rfl⟩|⟨rfl,h0,g2⟩|⟨h0,h1,g2⟩
  ·rw[BV,F0]
   simp [AH.k9,CH.new,AH.k6,CH.u7]
  ·obtain ⟨t',rfl⟩ : ∃ t',t=t'+1:=⟨t-1,by omega⟩
   rw[BV,F1];exact Nat.lt_of_lt_of_le (h.sat.old _ _ _ g2) (bD _)
  ·rw[CS _ h0]
   exact Nat.lt_of_lt_of_le (h.sat.old _ _ _ g2) (bD _)
 ·have hold : ∀ j t c,c7 ((s,(σ key 0).1,.mx (rows++[none]))::u5 key M) j t=some c->(j=s/\t=0) \/ ∃ j0 t0 c0,c7 M j0 t0=some c0/\C4 σ s F j t=σ j0 t0/\((j0=key/\t0=t/\j=s)\/(j0=j/\t0=t/\j≠key)):=by
   intro j t c g;rcases hg j t c g with ⟨rfl,rfl,rfl⟩|⟨rfl,h0,g2⟩|⟨h0,h1,g2⟩
   ·exact Or.inl ⟨rfl,rfl⟩
   ·obtain ⟨t',rfl⟩ : ∃ t',t=t'+1:=⟨t-1,by omega⟩
    exact Or.inr ⟨_,_,_,g2,by rw[BV,F1],Or.inl ⟨rfl,rfl,rfl⟩⟩
   ·exact Or.inr ⟨_,_,_,g2,by rw[CS _ h0],Or.inr ⟨rfl,rfl,h1⟩⟩
  have pq : ∀ j0 t0 c0,c7 M j0 t0=some c0->C4 σ s F s 0≠σ j0 t0:=by
   intro j0 t0 c0 g he;rw[BV,F0]at he;have:=h.sat.old _ _ _ g
   rw[<-he]at this;exact absurd this (Nat.lt_irrefl _)
  intro j t j' t' c c' g g' hj;rcases hold j t c g with ⟨rfl,rfl⟩|⟨j0,t0,c0,a1,a2,a3⟩<;>rcases hold j' t' c' g' with ⟨rfl,rfl⟩|⟨j1,t1,c1,b1,b2,b3⟩
  ·exact ⟨rfl,rfl⟩
  ·rw[b2]at hj;exact absurd hj (pq _ _ _ b1)
  ·rw[a2]at hj;exact absurd hj.symm (pq _ _ _ a1)
  ·rw[a2,b2]at hj
   obtain ⟨q1,q2⟩:=h.sat.inj _ _ _ _ _ _ a1 b1 hj;rcases a3 with ⟨x1,x2,x3⟩|⟨x1,x2,x3⟩<;>rcases b3 with ⟨y1,y2,y3⟩|⟨y1,y2,y3⟩
   ·exact ⟨x3.trans y3.symm,x2.symm.trans (q2.trans y2)⟩
   ·exact absurd (y1.symm.trans (q1.symm.trans x1)) y3
   ·exact absurd (x1.symm.trans (q1.trans y1)) x3
   ·exact ⟨x1.symm.trans (q1.trans y1),x2.symm.trans (q2.trans y2)⟩
 ·intro j t c g hw
  rcases hg j t c g with ⟨rfl,rfl,rfl⟩|⟨rfl,h0,g2⟩|⟨h0,h1,g2⟩
  ·rw[BV,F0];exact h.sat.low _ _ _ r0 rfl
  ·obtain ⟨t',rfl⟩ : ∃ t',t=t'+1:=⟨t-1,by omega⟩
   rw[BV,F1];exact h.sat.low _ _ _ g2 hw
  ·rw[CS _ h0];exact h.sat.low _ _ _ g2 hw
theorem pH {k:Nat} {v:AV} (h:WM k v=false):YF k v=false:=by
 cases v with
 | row j t z o n=>simp only[WM]at h;simp only[YF,h,cond_false]
 | ptr j t a b=>simp only[WM]at h;simp only[YF,h,cond_false]
 | _=>rfl
theorem fR {k:Nat} : ∀ {cs:List AV},II k cs=false->XJ k cs=false
 | [],_=>rfl
 | c::r,h=>by
  simp only[II]at h;cases h1:WM k c<;>simp only[h1,cond_true,cond_false]at h
  ·simp only[XJ,pH h1,cond_false,fR h]
  ·cases h
theorem xX {k:Nat} : ∀ {es:List (List AV)},J7 k es=false->cO k es=false
 | [],_=>rfl
 | c::r,h=>by
  simp only[J7]at h;cases h1:II k c<;>simp only[h1,cond_true,cond_false]at h
  ·simp only[cO,fR h1,cond_false,xX h]
  ·cases h
theorem fQ {k:Nat} {v:AV} (h:Y1 k v=false):aL k v=false:=by
 cases v with
 | agg cs=>exact fR h
 | fn p f g cs=>exact fR h
 | row a b c d e=>exact pH (v := .row a b c d e) h
 | ptr a b c d=>exact pH (v := .ptr a b c d) h
 | _=>rfl
theorem xW {k:Nat} : ∀ {cs:List AV},dY k cs=false->cN k cs=false
 | [],_=>rfl
 | c::r,h=>by
  simp only[dY]at h;cases h1:Y1 k c<;>simp only[h1,cond_true,cond_false]at h
  ·simp only[cN,fQ h1,cond_false,xW h]
  ·cases h
theorem Agh {k:Nat} {v:AV} (h:WN k v=false):ZG k v=false:=by
 cases v with
 | j9 cs=>exact xW h
 | agg cs=>exact fQ (v := .agg cs) h
 | fn p f g cs=>exact fQ (v := .fn p f g cs) h
 | row a b c d e=>exact fQ (v := .row a b c d e) h
 | ptr a b c d=>exact fQ (v := .ptr a b c d) h
 | _=>rfl
theorem xZ {k:Nat} : ∀ {tm:Tm},IJ k tm=false->K6 k tm=false
 | [],_=>rfl
 | (i,v)::r,h=>by
  simp only[IJ]at h;cases h1:WN k v<;>simp only[h1,cond_true,cond_false]at h
  ·simp only[K6,Agh h1,cond_false,xZ h]
  ·cases h
theorem xY {k:Nat} : ∀ {M:Mem},G2 k M=false->IV k M=false
 | [],_=>rfl
 | (i,s,c)::r,h=>by
  simp only[G2]at h;cases h0:Nat.beq k i<;>simp only[h0,cond_true,cond_false]at h
  ·cases h1:HE k c<;>simp only[h1,cond_true,cond_false]at h
   ·have:XH k c=false:=by
     cases c with
     | bx cs=>exact fR h1
     | bs z es=>exact xX h1
     | _=>rfl
    simp only[IV,this,cond_false,xY h]
   ·cases h
  ·cases h
theorem RX.hid {M1 M2:Mem} (hm : ∀ k,g9 M1 k=g9 M2 k) (h:RX σ tm M1 st):RX σ tm M2 st:=by
 have hr : ∀ k t,c7 M1 k t=c7 M2 k t:=λ k t=>by simp only[c7,hm]
 refine ⟨h.tm,⟨λ k s c e => ?_,λ k t c e => ?_,λ k t c e => ?_,λ k t k' t' c c' e e' => ?_,λ k t c e hw => ?_⟩⟩
 ·rw[<-hm]at e;exact h.sat.site _ _ _ e
 ·rw[<-hr]at e;exact h.sat.j5 _ _ _ e
 ·rw[<-hr]at e;exact h.sat.old _ _ _ e
 ·rw[<-hr]at e e';exact h.sat.inj _ _ _ _ _ _ e e'
 ·rw[<-hr]at e;exact h.sat.low _ _ _ e hw
theorem RX.Px (h:RX σ tm M st) {s q k2 s2 z:Nat} {es:List (List AV)} (e2:g9 M k2=some (s2,.rw z es)) (hk:s≠k2) (hm:G2 s M=false) (ht:IJ s tm=false) (hq:EY q=true) :
  ∃ σ',σ' s 0=(q,st.own.k6 q)/\RX σ' tm ((s,q,.mx [some (z,es)])::u5 k2 M) ⟨st.tm,st.own.put q ((st.own q).new ⟨1,[[.row (σ k2 0).1 (σ k2 0).2 z 0 es.length]]⟩)⟩:=by
 have fo:A5.flat (.mx [none]):=by
  intro i x hx;cases i with
  | zero=>simp at hx
  | succ i=>simp at hx
 have h1:=h.gx (s:=s) (q:=q) hm ht (.mx [none]) fo rfl (λ_=>hq);have Ch:g9 ((s,q,.mx [none])::M) k2=some (s2,.rw z es):=by
  simp only[g9,FK.2 (λ e=>hk e.symm),cond_false];exact e2
 have ox:IV s ((s,q,.mx [none])::M)=false:=by simp only[IV,XH,cond_false,xY hm]
 have h2:=h1.Ee (k:=s) (s:=q) (k2:=k2) (i:=0) (rows:=[none]) (c0 := .mx [none]) (by simp [g9]) (Or.inl rfl) Ch hk (xZ ht) ox (by simp);refine ⟨C4 σ s (λ t=>if t=0+1 then σ k2 0 else (q,st.own.k6 q)),?_,?_⟩
 ·rw[BV];simp
 ·have hσ:(C4 (C4 σ s λ_=>(q,st.own.k6 q)) s λ t=>if t=0+1 then (C4 σ s λ_=>(q,st.own.k6 q)) k2 0 else (C4 σ s λ_=>(q,st.own.k6 q)) s t)=C4 σ s (λ t=>if t=0+1 then σ k2 0 else (q,st.own.k6 q)):=by
   funext j t
   by_cases hj:j=s
   ·subst hj;rw[BV,BV];simp only[BV,CS _ (λ e=>hk e.symm)]
   ·rw[CS _ hj,CS _ hj,CS _ hj]
  rw[hσ]at h2;have hM:u5 k2 ((s,q,A5.mx [none])::M)=(s,q,.mx [none])::u5 k2 M:=by
   simp only[u5,FK.2 (λ e=>hk e.symm),cond_false]
  rw[hM]at h2;have ho : ∀ b b':ED,(st.own.put q ((st.own q).new b)).put q (((st.own.put q ((st.own q).new b)) q).u7 (st.own.k6 q) (some b'))=st.own.put q ((st.own q).new b'):=by
   intro b b';rw[AH.nu,AH.k9];congr 1;simp only[CH.u7,CH.new,AH.k6,CH.mk.injEq,true_and];funext t'
   by_cases ql:t'=(st.own q).k6<;>simp [ql]
  have hn:(C4 σ s λ_=>(q,st.own.k6 q)) s 0=(q,st.own.k6 q):=by rw[BV]
  have ln:(C4 σ s λ_=>(q,st.own.k6 q)) k2=σ k2:=CS _ (λ e=>hk e.symm);simp only[hn,ln]at h2;rw[ho]at h2;refine RX.hid (λ k => ?_) h2;simp only[g9];cases Nat.beq k s<;>rfl
theorem RX.Kn (h:RX σ tm M st) {s key k2 ky s' s2 z:Nat} {rows:List (Option (Nat × List (List AV)))} {es:List (List AV)} (e:g9 M key=some (s',.mx rows)) (e2:g9 M k2=some (s2,.rw z es)) (hk:key≠k2) (hm:G2 s M=false) (ht:IJ s tm=false) :
  RX (C4 σ s λ t=>match t with|0=>(s',st.own.k6 s')|i+1=>if i=rows.length then σ k2 0 else σ key (i+1)) tm ((s,s',.mx (rows++[some (z,es)]))::u5 key (u5 k2 (u5 ky M)))
   ⟨st.tm,st.own.put s' (((st.own s').u7 (σ key 0).2 none).new ⟨1,B5 σ key 0 rows++[[.row (σ k2 0).1 (σ k2 0).2 z 0 es.length]]⟩)⟩:=by
 have hs:=h.sat.site _ _ _ e;subst hs;have r0:=DZ e;have r2:=DZ e2;generalize hF:(λ t=>match t with|0=>((σ key 0).1,st.own.k6 (σ key 0).1)|i+1=>if i=rows.length then σ k2 0 else σ key (i+1):Nat->Nat × Nat)=F;have F0:F 0=((σ key 0).1,st.own.k6 (σ key 0).1):=by rw[<-hF]
 have F1 : ∀ i,F (i+1)=if i=rows.length then σ k2 0 else σ key (i+1):=by intro i;rw[<-hF]
 have mj:B5 (C4 σ s F) s 0 (rows++[some (z,es)])=B5 σ key 0 rows++[[.row (σ k2 0).1 (σ k2 0).2 z 0 es.length]]:=by
  apply List.ext_getElem?;intro j;rw[E6,BV];rcases Nat.lt_trichotomy j rows.length with hj|hj|hj
  ·rw[List.getElem?_append_left hj,List.getElem?_append_left (by rw[E7];exact hj),E6]
   congr 1;funext r
   cases r with
   | none=>rfl
   | some x=>simp only[Nat.zero_add];rw[F1,if_neg (by omega)]
  ·subst hj
   rw[List.getElem?_append_right (Nat.le_refl _),List.getElem?_append_right (by rw[E7];exact Nat.le_refl _),E7];simp [F1]
  ·rw[List.getElem?_eq_none (by simp;omega),List.getElem?_eq_none (by simp [E7];omega)];rfl
 have Dv : ∀ j t c',c7 M j t=some c'->HE s c'=false/\j≠s:=by
  intro j t c' g;obtain ⟨s1,c0,g1,g2,g3⟩:=HU g;obtain ⟨g4,g5⟩:=X0 hm _ _ _ g1;refine ⟨?_,g4⟩;cases t with
  | zero=>rw[g2 rfl];exact g5
  | succ i=>obtain ⟨rows,z,es,_,_,rfl⟩:=g3 i rfl;rfl
 have hg : ∀ j t c,c7 ((s,(σ key 0).1,.mx (rows++[some (z,es)]))::u5 key (u5 k2 (u5 ky M))) j t=some c ->
   (j=s/\t=0/\c = .mx (rows++[some (z,es)]))\/(j=s/\t=rows.length+1/\c = .rw z es)\/(j=s/\t≠0/\t≠rows.length+1/\c7 M key t=some c)\/(j≠s/\j≠key/\j≠k2/\c7 M j t=some c):=by
  intro j t c g;by_cases hj:j=s
  ·subst hj
   cases t with
   | zero=>rw[ZT]at g;exact Or.inl ⟨rfl,rfl,(Option.some.inj g).symm⟩
   | succ t =>
    simp only[c7,g9,Nat.beq_refl,cond_true]at g;rcases Nat.lt_trichotomy t rows.length with ql|ql|ql
    ·rw[List.getElem?_append_left ql]at g
     refine Or.inr (Or.inr (Or.inl ⟨rfl,by omega,by omega,?_⟩));simp only[c7,e];exact g
    ·subst ql
     rw[List.getElem?_append_right (Nat.le_refl _),Nat.sub_self]at g;exact Or.inr (Or.inl ⟨rfl,rfl,(Option.some.inj g).symm⟩)
    ·rw[List.getElem?_eq_none (by simp;omega)]at g;cases g
  ·rw[PN hj]at g
   obtain ⟨g1,g2⟩:=TW g;obtain ⟨g3,g4⟩:=TW g2;obtain ⟨_,g5⟩:=TW g4;exact Or.inr (Or.inr (Or.inr ⟨hj,g1,g3,g5⟩))
 refine ⟨λ j => ?_,⟨?_,?_,?_,?_,?_⟩⟩
 ·rw[nU (dZ ht j)];exact h.tm j
 ·intro j s1 c g
  simp only[g9]at g;cases hb:Nat.beq j s<;>simp only[hb,cond_true,cond_false]at g
  ·rw[CS _ (FK.1 hb)];exact h.sat.site _ _ _ (XX (XX (XX g).2).2).2
  ·simp only[Option.some.injEq,Prod.mk.injEq]at g
   rw[BL.1 hb,BV,F0,<-g.1]
 ·intro j t c g
  rcases hg j t c g with ⟨rfl,rfl,rfl⟩|⟨rfl,rfl,rfl⟩|⟨rfl,h0,h1,g2⟩|⟨h0,h1,h2,g2⟩
  ·rw[BV,F0]
   simp only[A5.j5,mj];simp [AH.k9,CH.new,AH.k6,CH.u7]
  ·rw[BV,F1,if_pos rfl]
   exact (bC (λ he=>hk (h.sat.inj _ _ _ _ _ _ r2 r0 he).1.symm) (h.sat.old _ _ _ r2)).trans (h.sat.j5 _ _ _ r2)
  ·obtain ⟨t',rfl⟩ : ∃ t',t=t'+1:=⟨t-1,by omega⟩
   rw[BV,F1,if_neg (by omega)];have hb:c.j5 (C4 σ j F) j=c.j5 σ key:=by
    obtain ⟨_,_,_,_,g3⟩:=HU g2;obtain ⟨_,_,_,_,_,rfl⟩:=g3 t' rfl;rfl
   rw[hb];exact (bC (λ he=>absurd (h.sat.inj _ _ _ _ _ _ g2 r0 he).2 (by omega)) (h.sat.old _ _ _ g2)).trans (h.sat.j5 _ _ _ g2)
  ·rw[CS _ h0,kK (Dv _ _ _ g2).1 h0]
   exact (bC (λ he=>h1 (h.sat.inj _ _ _ _ _ _ g2 r0 he).1) (h.sat.old _ _ _ g2)).trans (h.sat.j5 _ _ _ g2)
 ·intro j t c g
  rcases hg j t c g with ⟨rfl,rfl,rfl⟩|⟨rfl,rfl,rfl⟩|⟨rfl,h0,h1,g2⟩|⟨h0,h1,h2,g2⟩
  ·rw[BV,F0]
   simp [AH.k9,CH.new,AH.k6,CH.u7]
  ·rw[BV,F1,if_pos rfl]
   exact Nat.lt_of_lt_of_le (h.sat.old _ _ _ r2) (bD _)
  ·obtain ⟨t',rfl⟩ : ∃ t',t=t'+1:=⟨t-1,by omega⟩
   rw[BV,F1,if_neg (by omega)];exact Nat.lt_of_lt_of_le (h.sat.old _ _ _ g2) (bD _)
  ·rw[CS _ h0]
   exact Nat.lt_of_lt_of_le (h.sat.old _ _ _ g2) (bD _)
 ·have hold : ∀ j t c,c7 ((s,(σ key 0).1,.mx (rows++[some (z,es)]))::u5 key (u5 k2 (u5 ky M))) j t=some c->(j=s/\t=0) \/ ∃ j0 t0 c0,c7 M j0 t0=some c0/\C4 σ s F j t=σ j0 t0/\((j0=k2/\t0=0/\j=s/\t=rows.length+1)\/(j0=key/\t0=t/\j=s)\/(j0=j/\t0=t/\j≠key/\j≠k2)):=by
   intro j t c g;rcases hg j t c g with ⟨rfl,rfl,rfl⟩|⟨rfl,rfl,rfl⟩|⟨rfl,h0,h1,g2⟩|⟨h0,h1,h2,g2⟩
   ·exact Or.inl ⟨rfl,rfl⟩
   ·exact Or.inr ⟨_,_,_,r2,by rw[BV,F1,if_pos rfl],Or.inl ⟨rfl,rfl,rfl,rfl⟩⟩
   ·obtain ⟨t',rfl⟩ : ∃ t',t=t'+1:=⟨t-1,by omega⟩
    exact Or.inr ⟨_,_,_,g2,by rw[BV,F1,if_neg (by omega)],Or.inr (Or.inl ⟨rfl,rfl,rfl⟩)⟩
   ·exact Or.inr ⟨_,_,_,g2,by rw[CS _ h0],Or.inr (Or.inr ⟨rfl,rfl,h1,h2⟩)⟩
  have pq : ∀ j0 t0 c0,c7 M j0 t0=some c0->C4 σ s F s 0≠σ j0 t0:=by
   intro j0 t0 c0 g he;rw[BV,F0]at he;have:=h.sat.old _ _ _ g
   rw[<-he]at this;exact absurd this (Nat.lt_irrefl _)
  intro j t j' t' c c' g g' hj;rcases hold j t c g with ⟨rfl,rfl⟩|⟨j0,t0,c0,a1,a2,a3⟩<;>rcases hold j' t' c' g' with ⟨rfl,rfl⟩|⟨j1,t1,c1,b1,b2,b3⟩
  ·exact ⟨rfl,rfl⟩
  ·rw[b2]at hj;exact absurd hj (pq _ _ _ b1)
  ·rw[a2]at hj;exact absurd hj.symm (pq _ _ _ a1)
  ·rw[a2,b2]at hj
   obtain ⟨q1,q2⟩:=h.sat.inj _ _ _ _ _ _ a1 b1 hj;rcases a3 with ⟨x1,x2,x3,x4⟩|⟨x1,x2,x3⟩|⟨x1,x2,x3,x4⟩<;>rcases b3 with ⟨y1,y2,y3,y4⟩|⟨y1,y2,y3⟩|⟨y1,y2,y3,y4⟩
   ·exact ⟨x3.trans y3.symm,x4.trans y4.symm⟩
   ·exact absurd (y1.symm.trans (q1.symm.trans x1)) hk
   ·exact absurd (y1.symm.trans (q1.symm.trans x1)) y4
   ·exact absurd (x1.symm.trans (q1.trans y1)) hk
   ·exact ⟨x3.trans y3.symm,x2.symm.trans (q2.trans y2)⟩
   ·exact absurd (y1.symm.trans (q1.symm.trans x1)) y3
   ·exact absurd (x1.symm.trans (q1.trans y1)) x4
   ·exact absurd (x1.symm.trans (q1.trans y1)) x3
   ·exact ⟨x1.symm.trans (q1.trans y1),x2.symm.trans (q2.trans y2)⟩
 ·intro j t c g hw
  rcases hg j t c g with ⟨rfl,rfl,rfl⟩|⟨rfl,rfl,rfl⟩|⟨rfl,h0,h1,g2⟩|⟨h0,h1,h2,g2⟩
  ·rw[BV,F0];exact h.sat.low _ _ _ r0 rfl
  ·rw[BV,F1,if_pos rfl];exact h.sat.low _ _ _ r2 rfl
  ·obtain ⟨t',rfl⟩ : ∃ t',t=t'+1:=⟨t-1,by omega⟩
   rw[BV,F1,if_neg (by omega)];exact h.sat.low _ _ _ g2 hw
  ·rw[CS _ h0];exact h.sat.low _ _ _ g2 hw
theorem G4 (k:IntKind) (n:Int):BG σ (.int k n) = .int k n:=rfl
theorem G3 (b:Bool):BG σ (.bool b) = .bool b:=rfl
theorem H4 (l:Bool) (es:List (List AV)):BG σ (.sl l es) = .sl l es:=rfl
theorem DG (k t z o n:Nat):BG σ (.row k t z o n) = .row (σ k t).1 (σ k t).2 z o n:=rfl
theorem EI (k t i j:Nat):BG σ (.ptr k t i j) = .ptr (σ k t).1 (σ k t).2 i j:=rfl
theorem IK (cs:List AV):BG σ (.x7 cs) = .x7 cs:=rfl
theorem E9:BG σ .nil = .nil:=rfl
theorem HK (cs:List AV):BG σ (.agg cs) = .agg (cs.map (A7 σ)):=rfl
theorem AmU (v:Value):BG σ (.ep v) = .ep v:=rfl
theorem iU (p:Bool) (f g:Nat) (cs:List AV):BG σ (.fn p f g cs) = .fn p f g (cs.map (A7 σ)):=rfl
theorem IL (cs:List AV):BG σ (.j9 cs) = .j9 (cs.map (BS σ)):=rfl
def CG.res (own:AH):CG->AV × AH
 | .val v=>(v,own)
 | .new s b f=>(f (own.k6 s),own.put s ((own s).new b))
 | .As s b f=>(f (own.k6 s),own.put s ((own s).new b))
 | .fk v o=>(v,o)
 | .u7 s x=>(.j9 [],own.put s x)
 | .zi s x v=>(v,own.put s x)
theorem oV (st:St) (d:Option Nat) (E:CG):st.app d E=⟨(st.dst d (E.res st.own).1).tm,(E.res st.own).2⟩:=by
 cases E<;>cases d<;>rfl
def BR (L:Lib) (tm:Tm) (g7:List Nat) (K:AV->Mem->Prop) (op:D4) (st:St):Prop :=
 ∃ E σ' v M',(∀ c,j6 (C3 L c) g7 st.ev st.own op=some E)/\K v M'/\(E.res st.own).1=BG σ' v/\RX σ' tm M' ⟨st.tm,(E.res st.own).2⟩
theorem BR.val {L:Lib} {g7:List Nat} {K:AV->Mem->Prop} {op:D4} (h:RX σ tm M st) (v:AV) (he : ∀ c,j6 (C3 L c) g7 st.ev st.own op=some (.val (BG σ v))) (hk:K v M):BR L tm g7 K op st :=
 ⟨_,σ,v,M,he,hk,rfl,h⟩
variable {L:Lib} {g7:List Nat} {K:AV->Mem->Prop}
theorem AfQ {x:AQ} (hr:RX σ tm M st) (h:XE L tm M g7 K (.b9 x)):BR L tm g7 K (.b9 x) st:=by
 simp only[XE]at h;obtain ⟨h1,h2⟩:=mB h;exact BR.val hr _ (λ C=>by simp only[j6,hr.ev rfl h1]) h2
theorem AfW {s z:Nat} (hr:RX σ tm M st) (h:XE L tm M g7 K (.ag s z)):BR L tm g7 K (.ag s z) st:=by
 simp only[XE]at h;cases ik:EY s<;>simp only[ik,cond_true,cond_false]at h;obtain ⟨k,h1,h2,h3⟩:=HO h;refine ⟨_,_,_,_,λ C=>rfl,h3,?_,hr.gx h1 h2 (.rw z []) trivial rfl (λ_=>ik)⟩;simp only[CG.res,DG,EI,BV]
theorem AfR {c a b:AQ} (hr:RX σ tm M st) (h:XE L tm M g7 K (.pick c a b)):BR L tm g7 K (.pick c a b) st:=by
 simp only[XE]at h;split at h
 ·rename_i e
  obtain ⟨h1,h2⟩:=mB h;exact BR.val hr _ (λ C=>by simp only[j6,hr.ev e (by intro e;cases e),hr.ev rfl h1,G4,G3,H4,DG,EI,IK,E9,HK,IL]) h2
 ·rename_i e
  obtain ⟨h1,h2⟩:=mB h;exact BR.val hr _ (λ C=>by simp only[j6,hr.ev e (by intro e;cases e),hr.ev rfl h1,G4,G3,H4,DG,EI,IK,E9,HK,IL]) h2
 ·exact h.elim
theorem AkU {op:BinOp} {k k':IntKind} {a b:Int} {v:AV} (h:DI op k a k' b=some v):BG σ v=v:=by
 cases op<;>simp only[DI]at h<;>split at h<;>first|(obtain rfl:=Option.some.inj h;rfl)|cases h
theorem Alt {k k':IntKind} (h:kq k k'=true):k=k':=by simpa [kq] using h
theorem Aga {op:BinOp} {k k':IntKind} {a b:Int} {K:AV->Prop} (h:oX op k a k' b K) : ∃ v,DI op k a k' b=some v/\K v:=by
 have key : ∀ (p q:Prop) [Decidable p] (A B:Prop) (c:Bool),(¬ p->q)->AF p q A B->(p/\A)\/(¬ p/\B):=by
  intro p q _ A B _ hq hc;by_cases hp:p
  ·exact Or.inl ⟨hp,hc.1 hp⟩
  ·exact Or.inr ⟨hp,hc.2 (hq hp)⟩
 cases op;all_goals try (exact h)
 all_goals (
  simp only[oX]at h;cases hk:kq k k'<;>simp only[hk,cond_true,cond_false]at h;obtain rfl:=Alt hk;simp only[DI,if_true])
 ·rcases key (a=b) _ _ _ true (λ e=>e) h with ⟨h1,h2⟩|⟨h1,h2⟩
  ·exact ⟨_,rfl,by rw[show (a == b)=true by simpa using h1];exact h2⟩
  ·exact ⟨_,rfl,by rw[show (a == b)=false by simpa using h1];exact h2⟩
 ·rcases key (a≠b) _ _ _ true (λ e=>by omega) h with ⟨h1,h2⟩|⟨h1,h2⟩
  ·exact ⟨_,rfl,by rw[show (a != b)=true by simpa using h1];exact h2⟩
  ·exact ⟨_,rfl,by rw[show (a != b)=false by simpa using h1];exact h2⟩
 ·rcases key (a<b) _ _ _ true (λ e=>by omega) h with ⟨h1,h2⟩|⟨h1,h2⟩
  ·exact ⟨_,rfl,by simpa [h1] using h2⟩
  ·exact ⟨_,rfl,by simpa [h1] using h2⟩
 ·rcases key (a<=b) _ _ _ true (λ e=>by omega) h with ⟨h1,h2⟩|⟨h1,h2⟩
  ·exact ⟨_,rfl,by simpa [h1] using h2⟩
  ·exact ⟨_,rfl,by simpa [h1] using h2⟩
 ·rcases key (b<a) _ _ _ true (λ e=>by omega) h with ⟨h1,h2⟩|⟨h1,h2⟩
  ·exact ⟨_,rfl,by simpa [h1] using h2⟩
  ·exact ⟨_,rfl,by simpa [h1] using h2⟩
 ·rcases key (b<=a) _ _ _ true (λ e=>by omega) h with ⟨h1,h2⟩|⟨h1,h2⟩
  ·exact ⟨_,rfl,by simpa [h1] using h2⟩
  ·exact ⟨_,rfl,by simpa [h1] using h2⟩
theorem Afu {op:BinOp} {x y:AQ} (hr:RX σ tm M st) (h:XE L tm M g7 K (.bin op x y)):BR L tm g7 K (.bin op x y) st:=by
 simp only[XE]at h;split at h
 ·rename_i k a k' b e1 e2
  obtain ⟨v,hv,hk⟩:=Aga h;exact BR.val hr v (λ C=>by
   simp only[j6,hr.ev e1 (by intro e;cases e),hr.ev e2 (by intro e;cases e),G4,G3,H4,DG,EI,IK,E9,HK,IL,hv,Option.map_some];exact congrArg some (congrArg CG.val (AkU (σ:=σ) hv).symm)) hk
 ·exact h.elim
theorem Aft {ne:Bool} {x y:AQ} (hr:RX σ tm M st) (h:XE L tm M g7 K (.beq ne x y)):BR L tm g7 K (.beq ne x y) st:=by
 simp only[XE]at h;split at h
 ·rename_i a b e1 e2
  rw[YK]at h;exact BR.val hr _ (λ C=>by
   simp only[j6,hr.ev e1 (by intro e;cases e),hr.ev e2 (by intro e;cases e),G4,G3,H4,DG,EI,IK,E9,HK,IL];cases ne<;>rfl) h
 ·exact h.elim
theorem sK : ∀ {cs:List AV} {a:List Int},IG cs=some a->cs.map (A7 σ)=cs
 | [],_,_=>rfl
 | c::r,a,h=>by
  cases c with
  | int k n =>
   cases k<;>simp only[IG]at h<;>first|cases h|skip
   cases hr:IG r with
   | none=>rw[hr]at h;cases h
   | some b=>rw[List.map_cons,sK hr];rfl
  | _=>simp only[IG]at h;cases h
theorem Afi {ne:Bool} {n:Nat} {x y:AQ} (hr:RX σ tm M st) (h:XE L tm M g7 K (.tv ne n x y)):BR L tm g7 K (.tv ne n x y) st:=by
 simp only[XE]at h;split at h
 ·rename_i cs ds e1 e2
  obtain ⟨a,b,h1,h2,h3,h4,h⟩:=h;rw[YK]at h;exact BR.val hr _ (λ C=>by
   simp only[j6,hr.ev e1 (by intro e;cases e),hr.ev e2 (by intro e;cases e),HK,sK h1,sK h2,h1,h2];rw[if_pos ⟨h3,h4⟩];cases ne<;>rfl) h
 ·exact h.elim
theorem AfV {op:UnOp} {x:AQ} (hr:RX σ tm M st) (h:XE L tm M g7 K (.un op x)):BR L tm g7 K (.un op x) st:=by
 simp only[XE]at h;split at h
 ·rename_i k n e1
  obtain ⟨v,hv,hk⟩:=h;refine BR.val hr v (λ C => ?_) hk;simp only[j6,hr.ev e1 (by intro e;cases e),G4,G3,H4,DG,EI,IK,E9,HK,IL,hv,Option.map_some];cases op<;>simp only[Z7,Option.some.injEq,reduceCtorEq]at hv<;>subst hv<;>rfl
 ·rename_i b e1
  split at h
  ·rw[YK]at h
   exact BR.val hr _ (λ C=>by simp only[j6,hr.ev e1 (by intro e;cases e),G4,G3,H4,DG,EI,IK,E9,HK,IL,Z7,Option.map_some]) h
  ·exact h.elim
 ·exact h.elim
theorem Afz {k:IntKind} {x:AQ} (hr:RX σ tm M st) (h:XE L tm M g7 K (.conv k x)):BR L tm g7 K (.conv k x) st:=by
 simp only[XE]at h;split at h
 ·rename_i k' n e1
  exact BR.val hr _ (λ C=>by simp only[j6,hr.ev e1 (by intro e;cases e),G4,G3,H4,DG,EI,IK,E9,HK,IL]) h
 ·exact h.elim
theorem Afv {s:Nat} {x:AQ} (hr:RX σ tm M st) (h:XE L tm M g7 K (.box s x)):BR L tm g7 K (.box s x) st:=by
 simp only[XE]at h;obtain ⟨h0,cs,hc,h⟩:=mA h;obtain ⟨k,h1,h2,h3⟩:=HO h;refine ⟨.new s (A5.j5 σ k (.bx cs)) (λ t => .ptr s t 0 0),_,_,_,λ C => ?_,h3,?_,hr.gx h1 h2 (.bx cs) trivial (Wk (Ql h2 x) hc) (λ h=>nomatch h)⟩
 ·simp only[j6,hr.ev rfl h0,XG hc,List.length_map,A5.j5]
 ·simp only[CG.res,DG,EI,BV]
theorem Afj {s:Nat} {z:List AV} (hr:RX σ tm M st) (h:XE L tm M g7 K (.alloc s z)):BR L tm g7 K (.alloc s z) st:=by
 simp only[XE]at h;cases hd:D8 z<;>simp only[hd,cond_true,cond_false]at h;obtain ⟨k,h1,h2,h3⟩:=HO h;refine ⟨.new s (A5.j5 σ k (.bx z)) (λ t => .ptr s t 0 0),_,_,_,λ C => ?_,h3,?_,hr.gx h1 h2 (.bx z) trivial (qA hd) (λ h=>nomatch h)⟩
 ·simp only[j6,A5.j5,I0 hd]
 ·simp only[CG.res,DG,EI,BV]
theorem iJ {cs ds:List AV} {off n:Nat} (h:part cs off n=some ds):part (cs.map (A7 σ)) off n=some (ds.map (A7 σ)):=by
 simp only[part]at h ⊢;split at h
 ·rename_i hl
  rw[if_pos (by simpa using hl)];obtain rfl:=Option.some.inj h;rw[List.map_take,List.map_drop]
 ·cases h
theorem Ue {v:AV} {K:AV->Prop} (h:fF v K):v ≠ .any/\BG σ v=A7 σ v/\K v:=by
 cases v<;>simp only[fF]at h<;>first|exact h.elim|exact ⟨(by intro e;cases e),rfl,h⟩
theorem XY (σ:FP) {agg:Bool} {ds:List AV} {K:AV->Prop} (h:qt agg ds K) : ∃ v,JC agg (ds.map (A7 σ))=some (BG σ v)/\K v:=by
 cases agg
 ·simp only[qt]at h
  split at h
  ·rename_i c
   obtain ⟨_,h1,h2⟩:=Ue (σ:=σ) h;exact ⟨c,by rw[h1];rfl,h2⟩
  ·exact h.elim
 ·exact ⟨.agg ds,rfl,h⟩
theorem Zj {cs vs:List AV} {j:Nat}:(splice cs j vs).map (A7 σ)=splice (cs.map (A7 σ)) j (vs.map (A7 σ)):=by
 simp only[splice,List.map_append,List.map_take,List.map_drop,List.length_map]
theorem Uk (hr:RX σ tm M st) : ∀ {ps:List (Nat × Nat × AQ)} {cells:List AV} {K:List AV->Prop},rO tm ps cells K -> ∃ cs,fill (cells.map (A7 σ)) (ps.map λ p=>(p.1,p.2.1,st.ev p.2.2))=some (cs.map (A7 σ))/\K cs
 | [],cells,K,h=>⟨cells,rfl,h⟩
 | p::r,cells,K,h=>by
  obtain ⟨h0,vs,hc,h⟩:=mA (show fC (ex tm p.2.2) λ vs=>bif Nat.beq vs.length p.2.1 then bif Nat.ble (p.1+p.2.1) cells.length then fL (splice cells p.1 vs) λ cells=>rO tm r cells K else False else False from h);cases hz:Nat.beq vs.length p.2.1<;>simp only[hz,cond_true,cond_false]at h;have hl:Nat.ble (p.1+p.2.1) cells.length=true:=by
   cases hl:Nat.ble (p.1+p.2.1) cells.length
   ·rw[hl]at h;exact h.elim
   ·rfl
  rw[hl]at h;simp only[cond_true,GU]at h;obtain ⟨cs,h1,h2⟩:=Uk hr h;refine ⟨cs,?_,h2⟩;simp only[List.map_cons,fill,hr.ev rfl h0,XG hc,List.length_map];rw[if_pos ⟨BL.1 hz,Nat.le_of_ble_eq_true hl⟩,<-Zj];exact h1
theorem Afx {z:List AV} {ps:List (Nat × Nat × AQ)} (hr:RX σ tm M st) (h:XE L tm M g7 K (.build z ps)):BR L tm g7 K (.build z ps) st:=by
 simp only[XE]at h;cases hd:D8 z<;>simp only[hd,cond_true,cond_false]at h;obtain ⟨cs,h1,h2⟩:=Uk hr h;refine BR.val hr (.agg cs) (λ C => ?_) h2;rw[I0 hd]at h1;simp only[j6,h1];rfl
theorem Qk : ∀ l:List AQ,ZN tm l=l.map (ex tm)
 | []=>rfl
 | x::r=>by rw[ZN,Qk r];rfl
theorem zT : ∀ {es:List (List AV)},gA es=true -> ∀ e∈es,D8 e=true
 | e0::r,h,e,he=>by
  simp only[gA]at h;cases h1:D8 e0<;>simp only[h1,cond_true,cond_false]at h
  ·cases h
  ·rcases List.mem_cons.1 he with rfl|he
   ·exact h1
   ·exact zT h e he
theorem Ag0 {es:List (List AV)} (h : ∀ e∈es,D8 e=true):(es.map λ cs=>cs.map (A7 σ))=es:=by
 conv=>rhs;rw[<-List.map_id es]
 exact List.map_congr_left λ e he=>I0 (h e he)
theorem sT {es:List (List AV)} {K:Nat->Prop} (h:hJ es K):K es.length:=by
 unfold hJ at h;split at h<;>exact h
theorem xU (hr:RX σ tm M st) {z:Nat} : ∀ {l:List AQ} {K:List (List AV)->Prop},pE tm z l K -> ∃ es,l.mapM (λ x=>cellsOf (st.ev x))=some (es.map λ cs=>cs.map (A7 σ))/\(∀ e∈es,e.length=z)/\(∀ k,IJ k tm=false->J7 k es=false)/\K es
 | [],K,h=>⟨[],rfl,(λ e he=>by cases he),λ_ _=>rfl,h⟩
 | x::r,K,h=>by
  obtain ⟨h0,cs,hc,h⟩:=mA (show fC (ex tm x) λ cs=>bif Nat.beq cs.length z then pE tm z r λ es=>K (cs::es) else False from h);cases hz:Nat.beq cs.length z<;>simp only[hz,cond_true,cond_false]at h;obtain ⟨es,h1,h2,h4,h3⟩:=xU hr h;refine ⟨cs::es,?_,λ e he => ?_,λ k hk => ?_,h3⟩
  ·rw[List.mapM_cons,h1,hr.ev rfl h0,XG hc];rfl
  ·rcases List.mem_cons.1 he with rfl|he
   ·exact BL.1 hz
   ·exact h2 e he
  ·simp only[J7,Wk (Ql hk x) hc,cond_false,h4 k hk]
theorem evL (hr:RX σ tm M st) {xs:List AQ} (h : ∀ v∈ZN tm xs,v ≠ .any):xs.map st.ev=(ZN tm xs).map (BG σ):=by
 rw[Qk]at h ⊢;rw[List.map_map];exact List.map_congr_left λ x hx=>hr.ev rfl (h _ (List.mem_map_of_mem hx))
theorem Afw {s z:Nat} {ps:List AQ} (hr:RX σ tm M st) (h:XE L tm M g7 K (.g8 s z ps)):BR L tm g7 K (.g8 s z ps) st:=by
 simp only[XE]at h;cases ik:EY s<;>simp only[ik,cond_true,cond_false]at h;obtain ⟨es,g1,g2,g3,h⟩:=xU hr h;obtain ⟨k,h1,h2,h3⟩:=HO (sT h);have key : ∀ c:A5,c.flat->HE k c=false->c.j5 σ k=⟨z,es.map λ cs=>cs.map (A7 σ)⟩->K (.row k 0 z 0 es.length) ((k,s,c)::M)->BR L tm g7 K (.g8 s z ps) st:=by
  intro c hf hc hb hk;refine ⟨.new s (c.j5 σ k) (λ t => .row s t z 0 es.length),_,_,_,λ C => ?_,hk,?_,hr.gx h1 h2 c hf hc (λ_=>ik)⟩
  ·simp only[j6,g1,hb]
   rw[if_pos (λ e he=>by obtain ⟨e',kp,rfl⟩:=List.mem_map.1 he;simpa using g2 e' kp)];simp only[List.length_map]
  ·simp only[CG.res,DG,BV]
 cases hd:gA es<;>simp only[hd,cond_true,cond_false]at h3
 ·exact key (.bs z es) trivial (g3 k h2) rfl h3
 ·exact key (.rw z es) trivial rfl (by simp only[A5.j5];rw[Ag0 (zT hd)]) h3
theorem AfD {x:AQ} {off:Nat} (hr:RX σ tm M st) (h:XE L tm M g7 K (.a7 x off)):BR L tm g7 K (.a7 x off) st:=by
 simp only[XE]at h;split at h
 ·rename_i key t i j e
  exact BR.val hr _ (λ C=>by simp only[j6,hr.ev e (by intro e;cases e),G4,G3,H4,DG,EI,IK,E9,HK,IL]) h
 ·rename_i cs e
  rw[GU]at h;exact BR.val hr _ (λ C=>by simp only[j6,hr.ev e (by intro e;cases e),G4,G3,H4,DG,EI,IK,E9,HK,IL]) h
 ·exact h.elim
theorem AfE {x:AQ} {off n:Nat} {agg:Bool} (hr:RX σ tm M st) (h:XE L tm M g7 K (.qa x off n agg)):BR L tm g7 K (.qa x off n agg) st:=by
 simp only[XE]at h;split at h
 ·rename_i cs e
  split at h
  ·rename_i ds hp
   rw[GU]at h;obtain ⟨v,h1,h2⟩:=XY σ h;exact BR.val hr v (λ C=>by simp only[j6,hr.ev e (by intro e;cases e),HK,iJ hp,h1,Option.map_some]) h2
  ·exact h.elim
 ·exact h.elim
theorem AfG {arr:Option Nat} {z:Nat} {x i:AQ} (hr:RX σ tm M st) (h:XE L tm M g7 K (.a5 arr z x i)):BR L tm g7 K (.a5 arr z x i) st:=by
 simp only[XE]at h;split at h
 ·rename_i kd n e1
  split at h
  ·rename_i len key t i' j e2
   obtain ⟨h1,h2⟩:=h;exact BR.val hr _ (λ C=>by simp only[j6,hr.ev e1 (by intro e;cases e),hr.ev e2 (by intro e;cases e),G4,G3,H4,DG,EI,IK,E9,HK,IL];rw[if_pos h1]) h2
  ·rename_i len cs e2
   obtain ⟨h1,h2⟩:=h;rw[GU]at h2;exact BR.val hr _ (λ C=>by simp only[j6,hr.ev e1 (by intro e;cases e),hr.ev e2 (by intro e;cases e),G4,G3,H4,DG,EI,IK,E9,HK,IL];rw[if_pos h1]) h2
  ·rename_i key t z' off len e2
   cases hz:Nat.beq z' z<;>simp only[hz,cond_true,cond_false]at h;obtain ⟨h1,h2⟩:=h;exact BR.val hr _ (λ C=>by simp only[j6,hr.ev e1 (by intro e;cases e),hr.ev e2 (by intro e;cases e),G4,G3,H4,DG,EI,IK,E9,HK,IL];rw[if_pos ⟨h1.1,h1.2,BL.1 hz⟩]) h2
  ·rename_i q es e2
   obtain ⟨h1,cs,h2,h3,h4⟩:=h;exact BR.val hr _ (λ C=>by simp only[j6,hr.ev e1 (by intro e;cases e),hr.ev e2 (by intro e;cases e),G4,G3,H4,DG,EI,IK,E9,HK,IL,h2];rw[if_pos h1,if_pos h3]) h4
  ·exact h.elim
 ·exact h.elim
theorem AfH {len z:Nat} {agg:Bool} {x i:AQ} (hr:RX σ tm M st) (h:XE L tm M g7 K (.idx len z agg x i)):BR L tm g7 K (.idx len z agg x i) st:=by
 simp only[XE]at h;split at h
 ·rename_i kd n cs e1 e2
  obtain ⟨h0,h⟩:=h;split at h
  ·rename_i ds hp
   rw[GU]at h;obtain ⟨v,h1,h2⟩:=XY σ h;exact BR.val hr v (λ C=>by simp only[j6,hr.ev e1 (by intro e;cases e),hr.ev e2 (by intro e;cases e),G4,G3,H4,DG,EI,IK,E9,HK,IL,iJ hp,h1,Option.map_some];rw[if_pos h0]) h2
  ·exact h.elim
 ·exact h.elim
theorem dU {s:Nat} {own:AH} : ∀ {g7:List Nat},ZW s g7=true->own.n7 g7 s=own s
 | [],_=>rfl
 | b::r,h=>by
  have hm:YR s (b::r)=false:=by simpa [ZW] using h
  have : ∀ l:List Nat,YR s l=false->own.n7 l s=own s:=by
   intro l;induction l with
   | nil=>intro _;rfl
   | cons b r ih =>
    intro h;simp only[YR]at h;cases hb:Nat.beq s b<;>simp only[hb,cond_true,cond_false]at h
    ·simp only[AH.n7]
     rw[if_neg (FK.1 hb)];exact ih h
    ·cases h
  exact this _ hm
theorem tQ {s:Nat} {own:AH} (hs:EY s=true) : ∀ {g7:List Nat},bG g7=true->own.n7 g7 s=own s
 | [],_=>rfl
 | b::r,h=>by
  simp only[bG]at h;cases hb:EY b<;>simp only[hb,cond_true,cond_false]at h
  ·have m9:s≠b:=λ e=>by rw[e,hb]at hs;cases hs
   show (if s=b then _ else own.n7 r s)=own s;rw[if_neg m9];exact tQ hs h
  ·cases h
theorem AfJ {agg:Bool} {n:Nat} {x:AQ} (hr:RX σ tm M st) (h:XE L tm M g7 K (.ld agg n x)):BR L tm g7 K (.ld agg n x) st:=by
 simp only[XE]at h;split at h
 ·rename_i key t i j e
  split at h
  ·rename_i s c hm
   have hs:=hr.sat.site _ _ _ hm;split at h
   ·cases hb:ZW s g7<;>simp only[hb,cond_true,cond_false]at h
    have bh:=hr.sat.j5 _ _ _ (DZ hm);rw[hs]at bh;split at h
    ·rename_i cs
     cases hi:Nat.beq i 0<;>simp only[hi,cond_true,cond_false]at h;obtain rfl:=BL.1 hi;split at h
     ·rename_i ds hp
      rw[GU]at h;obtain ⟨v,h1,h2⟩:=XY σ h;exact BR.val hr v (λ C=>by
       simp only[j6,hr.ev e (by intro e;cases e),EI,AH.sf,AH.get,hs];rw[dU hb,bh];simp only[A5.j5,List.getElem?_cons_zero,iJ hp,h1,Option.map_some]) h2
     ·exact h.elim
    ·rename_i z es
     obtain ⟨cs,ds,g1,g2,h⟩:=h;rw[GU]at h;cases hd:D8 ds<;>simp only[hd,cond_true,cond_false]at h;obtain ⟨v,h1,h2⟩:=XY σ h;rw[I0 hd]at h1;exact BR.val hr v (λ C=>by
      simp only[j6,hr.ev e (by intro e;cases e),EI,AH.sf,AH.get,hs];rw[dU hb,bh];simp only[A5.j5,g1,g2,h1,Option.map_some]) h2
    ·rename_i z es
     split at h
     ·rename_i cs g1
      split at h
      ·rename_i ds hp
       rw[GU]at h;obtain ⟨v,h1,h2⟩:=XY σ h;exact BR.val hr v (λ C=>by
        simp only[j6,hr.ev e (by intro e;cases e),EI,AH.sf,AH.get,hs];rw[dU hb,bh];simp only[A5.j5,List.getElem?_map,g1,Option.map_some,iJ hp,h1]) h2
      ·exact h.elim
     ·exact h.elim
    ·rename_i rows
     cases hj:Nat.beq j 0<;>simp only[hj,cond_true,cond_false]at h;cases hn:Nat.beq n 1<;>simp only[hn,cond_true,cond_false]at h;obtain rfl:=BL.1 hj;obtain rfl:=BL.1 hn;obtain ⟨r,g1,h⟩:=h;have fin : ∀ c:AV,(B5 σ key 0 rows)[i]? = some [A7 σ c]->qt agg [c] (λ v=>K v M)->BR L tm g7 K (.ld agg 1 x) st:=by
      intro c hc h;obtain ⟨v,h1,h2⟩:=XY σ h;have hp:part [A7 σ c] 0 1=some [A7 σ c]:=by simp [part]
      exact BR.val hr v (λ C=>by
       simp only[j6,hr.ev e (by intro e;cases e),EI,AH.sf,AH.get,hs];rw[dU hb,bh];simp only[A5.j5,hc,hp];simp only[List.map_cons,List.map_nil]at h1;simp only[h1,Option.map_some]) h2
     split at h
     ·rename_i z es
      exact fin _ (by rw[E6,g1];simp [A7]) h
     ·exact fin _ (by rw[E6,g1];simp [A7]) h
    ·exact h.elim
    ·exact h.elim
   ·rename_i i'
    split at h
    ·rename_i rows
     obtain ⟨z,es,g0,cs,ds,g1,g2,h⟩:=h;rw[GU]at h;cases hd:D8 ds<;>simp only[hd,cond_true,cond_false]at h;obtain ⟨v,h1,h2⟩:=XY σ h;rw[I0 hd]at h1;have bh:=hr.sat.j5 key (i'+1) (.rw z es) (by simp [c7,hm,g0]);exact BR.val hr v (λ C=>by
      simp only[j6,hr.ev e (by intro e;cases e),EI,AH.sf,AH.get,AH.n7];rw[bh];simp only[A5.j5,g1,g2,h1,Option.map_some]) h2
    ·rename_i rows b r
     cases hb:bG (b::r)<;>simp only[hb,cond_true,cond_false]at h;obtain ⟨z,es,g0,cs,ds,g1,g2,h⟩:=h;rw[GU]at h;cases hd:D8 ds<;>simp only[hd,cond_true,cond_false]at h;obtain ⟨v,h1,h2⟩:=XY σ h;rw[I0 hd]at h1;have g':c7 M key (i'+1)=some (.rw z es):=by simp [c7,hm,g0]
     have bh:=hr.sat.j5 key (i'+1) (.rw z es) g';have ik:=hr.sat.low key (i'+1) _ g' rfl;exact BR.val hr v (λ C=>by
      simp only[j6,hr.ev e (by intro e;cases e),EI,AH.sf,AH.get];rw[tQ ik hb,bh];simp only[A5.j5,g1,g2,h1,Option.map_some]) h2
    ·exact h.elim
  ·exact h.elim
 ·rename_i cs e
  split at h
  ·rename_i ds hp
   rw[GU]at h;cases hd:D8 ds<;>simp only[hd,cond_true,cond_false]at h;obtain ⟨v,h1,h2⟩:=XY σ h;rw[I0 hd]at h1;exact BR.val hr v (λ C=>by simp only[j6,hr.ev e (by intro e;cases e),IK,hp,h1,Option.map_some]) h2
  ·exact h.elim
 ·exact h.elim
theorem AfK {agg:Bool} {n:Nat} {x:AQ} (hr:RX σ tm M st) (h:XE L tm M g7 K (.vu agg n x)):BR L tm g7 K (.vu agg n x) st:=by
 simp only[XE]at h;split at h
 ·rename_i cs e
  split at h
  ·rename_i ds hp
   rw[GU]at h;cases hd:D8 ds<;>simp only[hd,cond_true,cond_false]at h;obtain ⟨v,h1,h2⟩:=XY σ h;rw[I0 hd]at h1;exact BR.val hr v (λ C=>by simp only[j6,hr.ev e (by intro e;cases e),IK,hp,h1,Option.map_some]) h2
  ·exact h.elim
 ·exact h.elim
theorem xB {n:Nat} {x v:AQ} (hr:RX σ tm M st) (h:XE L tm M g7 K (.st n x v)):BR L tm g7 K (.st n x v) st:=by
 simp only[XE,vP]at h;split at h
 ·rename_i key t i j e
  obtain ⟨h0,vs,hc,h5⟩:=mA h;clear h;cases hn:Nat.beq vs.length n<;>simp only[hn,cond_true,cond_false]at h5;have tp:=BL.1 hn;split at h5
  ·rename_i s c hm
   have hs:=hr.sat.site _ _ _ hm;split at h5
   ·have bh:=hr.sat.j5 _ _ _ (DZ hm)
    rw[hs]at bh;split at h5
    ·rename_i cs
     cases hi:Nat.beq i 0<;>simp only[hi,cond_true,cond_false]at h5;obtain rfl:=BL.1 hi;have hl:Nat.ble (j+vs.length) cs.length=true:=by
      cases hl:Nat.ble (j+vs.length) cs.length
      ·rw[hl]at h5;exact h5.elim
      ·rfl
     rw[hl]at h5;simp only[cond_true,GU]at h5;refine ⟨.fk (.j9 []) (st.own.put s ((st.own s).u7 (σ key 0).2 (some (A5.j5 σ key (.bx (splice cs j vs)))))),σ,_,_,λ C => ?_,h5,rfl,hr.Qa hm trivial _ trivial (λ h=>nomatch h)⟩;simp only[j6,hr.ev e (by intro e;cases e),EI,hr.ev rfl h0,XG hc,List.length_map];rw[if_pos tp];simp only[AH.nv,AH.get,hs,bh,A5.j5,List.getElem?_cons_zero,List.length_map];rw[if_pos (Nat.le_of_ble_eq_true hl)];simp only[Option.map_some,List.set_cons_zero,Zj];have:(splice cs j vs).length=cs.length:=by
      have:=Nat.le_of_ble_eq_true hl
      simp only[splice,List.length_append,List.length_take,List.length_drop];omega
     rw[this]
    ·rename_i z es
     cases hd:D8 vs<;>simp only[hd,cond_true,cond_false]at h5;obtain ⟨cs,g1,g2,h5⟩:=h5;refine ⟨.fk (.j9 []) (st.own.put s ((st.own s).u7 (σ key 0).2 (some (A5.j5 σ key (.rw z (es.set i (splice cs j vs))))))),σ,_,_,λ C => ?_,h5,rfl,hr.Qa hm trivial _ trivial (λ_=>rfl)⟩;simp only[j6,hr.ev e (by intro e;cases e),EI,hr.ev rfl h0,XG hc,I0 hd];rw[if_pos tp];simp only[AH.nv,AH.get,hs,bh,A5.j5,g1];rw[if_pos g2];rfl
    ·exact h5.elim
    ·rename_i rows
     split at h5
     ·rename_i al z m
      cases gk:Nat.beq key al<;>simp only[gk,cond_true,cond_false]at h5;cases dk:K6 key tm<;>simp only[dk,cond_true,cond_false]at h5;cases ox:IV key M<;>simp only[ox,cond_true,cond_false]at h5;cases hj:Nat.beq j 0<;>simp only[hj,cond_true,cond_false]at h5;obtain rfl:=BL.1 hj;split at h5
      ·rename_i s2 z' es jk
       cases hz:Nat.beq z z'<;>simp only[hz,cond_true,cond_false]at h5;obtain rfl:=BL.1 hz;rw[O5]at h5;obtain ⟨rfl,hi,h5⟩:=h5;have hlen:(B5 σ key 0 rows)[i]? = some ((B5 σ key 0 rows)[i]'(by rw[E7];exact hi)):=zE _;have ku:((B5 σ key 0 rows)[i]'(by rw[E7];exact hi)).length=1:=by
        have:=E6 (σ:=σ) (k:=key) rows 0 i
        rw[hlen,zE hi]at this;simp only[Option.map_some,Option.some.injEq]at this;rw[this];split<;>rfl
       refine ⟨.fk (.j9 []) (st.own.put s ((st.own s).u7 (σ key 0).2 (some ⟨1,(B5 σ key 0 rows).set i [.row (σ al 0).1 (σ al 0).2 z 0 es.length]⟩))),_,_,_,λ C => ?_,h5,rfl,hr.Ee hm (Or.inl rfl) jk (FK.1 gk) dk ox hi⟩;simp only[j6,hr.ev e (by intro e;cases e),EI,hr.ev rfl h0,XG hc,List.length_map];rw[if_pos tp];simp only[AH.nv,AH.get,hs,bh,A5.j5,hlen,List.map_cons,List.map_nil,List.length_cons,List.length_nil,A7];rw[if_pos (by omega)];simp only[Option.map_some];have Ig:splice ((B5 σ key 0 rows)[i]'(by rw[E7];exact hi)) 0 [.row (σ al 0).1 (σ al 0).2 z 0 es.length]=[.row (σ al 0).1 (σ al 0).2 z 0 es.length]:=by
        simp only[splice,List.take_zero,List.nil_append,List.length_cons,List.length_nil,Nat.zero_add];rw[List.drop_of_length_le (by omega)];rfl
       rw[Ig]
      ·exact h5.elim
     ·rename_i al t2 z m
      cases gk:Nat.beq key al<;>simp only[gk,cond_true,cond_false]at h5;cases hj:Nat.beq j 0<;>simp only[hj,cond_true,cond_false]at h5;obtain rfl:=BL.1 hj;obtain rfl:=BL.1 gk;obtain ⟨z',es,g0,h5⟩:=h5;cases hz:Nat.beq z z'<;>simp only[hz,cond_true,cond_false]at h5;obtain rfl:=BL.1 hz;obtain ⟨⟨rfl,hi⟩,h5⟩:=h5;have x8:A5.j5 σ key (.vw ((List.range rows.length).set i t2) rows)=⟨1,(B5 σ key 0 rows).set i [.row (σ key (t2+1)).1 (σ key (t2+1)).2 z 0 es.length]⟩:=by
       simp only[A5.j5];congr 1;apply List.ext_getElem?;intro p;rw[List.getElem?_map];by_cases hp:i=p
       ·subst hp
        rw[List.getElem?_set_self (by rw[List.length_range];exact hi),List.getElem?_set_self (by rw[E7];exact hi),Option.map_some,E6,g0];simp
       ·rw[List.getElem?_set_ne hp,List.getElem?_set_ne hp,E6]
        by_cases Ex:p<rows.length
        ·rw[List.getElem?_range Ex,Option.map_some,E6,zE Ex,Option.map_some,Option.getD_some]
        ·rw[List.getElem?_eq_none (by rw[List.length_range];omega),List.getElem?_eq_none (by omega)];rfl
      have hv:=hr.view (w:=(List.range rows.length).set i t2) hm (Or.inl rfl);have hlen:(B5 σ key 0 rows)[i]? = some ((B5 σ key 0 rows)[i]'(by rw[E7];exact hi)):=zE _;have ku:((B5 σ key 0 rows)[i]'(by rw[E7];exact hi)).length=1:=by
       have:=E6 (σ:=σ) (k:=key) rows 0 i
       rw[hlen,zE hi]at this;simp only[Option.map_some,Option.some.injEq]at this;rw[this];split<;>rfl
      refine ⟨.fk (.j9 []) (st.own.put s ((st.own s).u7 (σ key 0).2 (some (A5.j5 σ key (.vw ((List.range rows.length).set i t2) rows))))),_,_,_,λ C => ?_,h5,rfl,hv⟩;rw[x8];simp only[j6,hr.ev e (by intro e;cases e),EI,hr.ev rfl h0,XG hc,List.length_map];rw[if_pos tp];simp only[AH.nv,AH.get,hs,bh,A5.j5,hlen,List.map_cons,List.map_nil,List.length_cons,List.length_nil,A7];rw[if_pos (by omega)];simp only[Option.map_some];have Ig:splice ((B5 σ key 0 rows)[i]'(by rw[E7];exact hi)) 0 [.row (σ key (t2+1)).1 (σ key (t2+1)).2 z 0 es.length]=[.row (σ key (t2+1)).1 (σ key (t2+1)).2 z 0 es.length]:=by
       simp only[splice,List.take_zero,List.nil_append,List.length_cons,List.length_nil,Nat.zero_add];rw[List.drop_of_length_le (by omega)];rfl
      rw[Ig]
     ·exact h5.elim
    ·rename_i i0 v0 rows
     split at h5
     ·rename_i al z m
      cases gk:Nat.beq key al<;>simp only[gk,cond_true,cond_false]at h5;cases dk:K6 key tm<;>simp only[dk,cond_true,cond_false]at h5;cases ox:IV key M<;>simp only[ox,cond_true,cond_false]at h5;cases hj:Nat.beq j 0<;>simp only[hj,cond_true,cond_false]at h5;obtain rfl:=BL.1 hj;split at h5
      ·rename_i s2 z' es jk
       cases hz:Nat.beq z z'<;>simp only[hz,cond_true,cond_false]at h5;obtain rfl:=BL.1 hz;rw[O5]at h5;obtain ⟨⟨rfl,rfl⟩,hi,h5⟩:=h5;refine ⟨.fk (.j9 []) (st.own.put s ((st.own s).u7 (σ key 0).2 (some ⟨1,(B5 σ key 0 rows).set i [.row (σ al 0).1 (σ al 0).2 z 0 es.length]⟩))),_,_,_,λ C => ?_,h5,rfl,hr.Ee hm (Or.inr ⟨v0,rfl⟩) jk (FK.1 gk) dk ox hi⟩;simp only[j6,hr.ev e (by intro e;cases e),EI,hr.ev rfl h0,XG hc,List.length_map];rw[if_pos tp];simp only[AH.nv,AH.get,hs,bh,A5.j5,List.getElem?_set_self (show i<(B5 σ key 0 rows).length by rw[E7];exact hi),List.map_cons,List.map_nil,List.length_cons,List.length_nil,A7];rw[if_pos (by omega)];simp only[Option.map_some,List.set_set];rfl
      ·exact h5.elim
     ·exact h5.elim
    ·rename_i w rows
     split at h5
     ·rename_i al t2 z m
      cases gk:Nat.beq key al<;>simp only[gk,cond_true,cond_false]at h5;cases hj:Nat.beq j 0<;>simp only[hj,cond_true,cond_false]at h5;obtain rfl:=BL.1 hj;obtain rfl:=BL.1 gk;obtain ⟨z',es,g0,h5⟩:=h5;cases hz:Nat.beq z z'<;>simp only[hz,cond_true,cond_false]at h5;obtain rfl:=BL.1 hz;obtain ⟨⟨rfl,hi,hwr⟩,h5⟩:=h5;have x8:A5.j5 σ key (.vw (w.set i t2) rows)=⟨1,(w.map λ t=>((B5 σ key 0 rows)[t]?).getD []).set i [.row (σ key (t2+1)).1 (σ key (t2+1)).2 z 0 es.length]⟩:=by
       simp only[A5.j5];congr 1;apply List.ext_getElem?;intro p;rw[List.getElem?_map];by_cases hp:i=p
       ·subst hp
        rw[List.getElem?_set_self hi,List.getElem?_set_self (by rw[List.length_map];exact hi),Option.map_some,E6,g0];simp
       ·rw[List.getElem?_set_ne hp,List.getElem?_set_ne hp,List.getElem?_map]
      have hv:=hr.view (w:=w.set i t2) hm (Or.inr ⟨w,rfl⟩);have hlen:(w.map λ t=>((B5 σ key 0 rows)[t]?).getD [])[i]? = some ((w.map λ t=>((B5 σ key 0 rows)[t]?).getD [])[i]'(by rw[List.length_map];exact hi)):=zE _;have ku:((w.map λ t=>((B5 σ key 0 rows)[t]?).getD [])[i]'(by rw[List.length_map];exact hi)).length=1:=by
       rw[List.getElem_map];have m7:=hwr w[i] (List.getElem_mem hi);rw[E6,zE m7];simp only[Option.map_some,Option.getD_some];split<;>rfl
      refine ⟨.fk (.j9 []) (st.own.put s ((st.own s).u7 (σ key 0).2 (some (A5.j5 σ key (.vw (w.set i t2) rows))))),_,_,_,λ C => ?_,h5,rfl,hv⟩;rw[x8];simp only[j6,hr.ev e (by intro e;cases e),EI,hr.ev rfl h0,XG hc,List.length_map];rw[if_pos tp];simp only[AH.nv,AH.get,hs,bh,A5.j5,hlen,List.map_cons,List.map_nil,List.length_cons,List.length_nil,A7];rw[if_pos (by omega)];simp only[Option.map_some];have Ig:splice ((w.map λ t=>((B5 σ key 0 rows)[t]?).getD [])[i]'(by rw[List.length_map];exact hi)) 0 [.row (σ key (t2+1)).1 (σ key (t2+1)).2 z 0 es.length]=[.row (σ key (t2+1)).1 (σ key (t2+1)).2 z 0 es.length]:=by
       simp only[splice,List.take_zero,List.nil_append,List.length_cons,List.length_nil,Nat.zero_add];rw[List.drop_of_length_le (by omega)];rfl
      rw[Ig]
     ·exact h5.elim
   ·rename_i i'
    split at h5
    ·rename_i rows
     cases hd:D8 vs<;>simp only[hd,cond_true,cond_false]at h5;obtain ⟨z,es,g0,cs,g1,g2,g3,h5⟩:=h5;have bh:=hr.sat.j5 key (i'+1) (.rw z es) (by simp [c7,hm,g0]);refine ⟨.fk (.j9 []) (st.own.put (σ key (i'+1)).1 ((st.own (σ key (i'+1)).1).u7 (σ key (i'+1)).2 (some ⟨z,es.set i (splice cs j vs)⟩))),σ,_,_,λ C => ?_,h5,rfl,hr.Py hm g0 g3⟩;simp only[j6,hr.ev e (by intro e;cases e),EI,hr.ev rfl h0,XG hc,I0 hd];rw[if_pos tp];simp only[AH.nv,AH.get,bh,A5.j5,g1];rw[if_pos g2];rfl
    ·exact h5.elim
  ·exact h5.elim
 ·exact h.elim
theorem AfM {s z bytes:Nat} {zero:List AV} {a c:AQ} (hr:RX σ tm M st) (h:XE L tm M g7 K (.mk s z bytes zero a c)):BR L tm g7 K (.mk s z bytes zero a c) st:=by
 simp only[XE]at h;split at h
 ·rename_i k1 p k2 q e1 e2
  cases hz:Nat.beq zero.length z<;>simp only[hz,cond_true,cond_false]at h;cases hd:D8 zero<;>simp only[hd,cond_true,cond_false]at h;split at h
  ·cases ik:EY s<;>simp only[ik,cond_true,cond_false]at h
   obtain ⟨⟨g1,g2,g3,g4⟩,h⟩:=h;obtain ⟨k,h1,h2,h3⟩:=HO h;have fo:A5.flat (.mx (List.replicate p.toNat none)):=by
    intro i x hx;have:=List.getElem?_replicate (n:=p.toNat) (a:=(none:Option (Nat × List (List AV)))) (i:=i)
    rw[this]at hx;split at hx<;>cases hx
   have ke:z=1:=(BL.1 hz).symm;have ic:A5.j5 σ k (.mx (List.replicate p.toNat none))=⟨z,List.replicate p.toNat [.nil]⟩:=by
    simp only[A5.j5,ke];congr 1;have : ∀ (n i:Nat),B5 σ k i (List.replicate n none)=List.replicate n [AV.nil]:=by
     intro n;induction n with
     | zero=>intro i;rfl
     | succ n ih=>intro i;rw[List.replicate_succ,List.replicate_succ,B5,ih]
    exact this _ _
   refine ⟨.new s (A5.j5 σ k (.mx (List.replicate p.toNat none))) (λ t => .row s t z 0 p.toNat),_,_,_,λ C => ?_,h3,?_,hr.gx h1 h2 (.mx _) fo rfl (λ_=>ik)⟩
   ·simp only[j6,hr.ev e1 (by intro e;cases e),hr.ev e2 (by intro e;cases e),G4,ic]
    rw[if_pos ⟨g1,g2,g3,g4,BL.1 hz⟩]
   ·simp only[CG.res,DG,BV]
  ·cases ik:EY s<;>simp only[ik,cond_true,cond_false]at h
   obtain ⟨⟨g1,g2,g3,g4⟩,h⟩:=h;obtain ⟨k,h1,h2,h3⟩:=HO h;refine ⟨.new s ⟨z,List.replicate p.toNat zero⟩ (λ t => .row s t z 0 p.toNat),_,_,_,λ C => ?_,h3,?_,hr.gx h1 h2 (.rw z _) trivial rfl (λ_=>ik)⟩
   ·simp only[j6,hr.ev e1 (by intro e;cases e),hr.ev e2 (by intro e;cases e),G4]
    rw[if_pos ⟨g1,g2,g3,g4,BL.1 hz⟩]
   ·simp only[CG.res,DG,BV]
 ·exact h.elim
theorem Ud {v:AV} {K:AV->Prop} (h:f2 v K):v ≠ .any/\BG σ v=BS σ v/\K v:=by
 cases v<;>simp only[f2,GU]at h<;>first|exact h.elim|exact ⟨(by intro e;cases e),rfl,h⟩
theorem Tp : ∀ (vs:List AV) (i:Nat),Am vs i ≠ .any->vs[i]? = some (Am vs i)
 | [],_,h=>absurd rfl h
 | _::_,0,_=>rfl
 | _::r,i+1,h=>Tp r i h
theorem AfA {x:AQ} {i:Nat} (hr:RX σ tm M st) (h:XE L tm M g7 K (.ext x i)):BR L tm g7 K (.ext x i) st:=by
 simp only[XE]at h;split at h
 ·rename_i vs e
  obtain ⟨h1,h2,h3⟩:=Ud (σ:=σ) h;refine BR.val hr _ (λ C => ?_) h3;simp only[j6,hr.ev e (by intro e;cases e),IL,List.getElem?_map,Tp vs i h1,Option.map_some,h2]
 ·exact h.elim
theorem AfL {x:AQ} (hr:RX σ tm M st) (h:XE L tm M g7 K (.len x)):BR L tm g7 K (.len x) st:=by
 simp only[XE]at h;split at h
 ·rename_i q es e
  exact BR.val hr _ (λ C=>by simp only[j6,hr.ev e (by intro e;cases e),H4,YP];rfl) h
 ·rename_i e
  exact BR.val hr _ (λ C=>by simp only[j6,hr.ev e (by intro e;cases e),E9,YP];rfl) h
 ·rename_i e
  exact BR.val hr _ (λ C=>by simp only[j6,hr.ev e (by intro e;cases e),DG,YP];rfl) h
 ·exact h.elim
theorem Wq {mx:Bool} {k:IntKind} {K:AV->Prop} : ∀ {l:List AV} {a:Int},bF mx k K a l -> ∃ n,PM mx (.int k a) l=some (.int k n)/\K (.int k n)/\(∀ v∈l,v ≠ .any/\BG σ v=v)
 | [],a,h=>⟨a,rfl,h,λ v hv=>by cases hv⟩
 | v::r,a,h=>by
  cases v with
  | int k' b =>
   have h:(bif mx then AF (a<b) (b<=a) (bF mx k K b r) (bF mx k K a r) else AF (b<a) (a<=b) (bF mx k K b r) (bF mx k K a r)):=h;have fin : ∀ c:Int,YT mx (.int k a) (.int k' b)=some (.int k c)->bF mx k K c r -> ∃ n,PM mx (.int k a) (.int k' b::r)=some (.int k n)/\K (.int k n)/\(∀ v∈AV.int k' b::r,v ≠ .any/\BG σ v=v):=by
    intro c hc hx;obtain ⟨n,h1,h2,h3⟩:=Wq hx;refine ⟨n,by simp only[PM,hc,h1],h2,λ v hv => ?_⟩;rcases List.mem_cons.1 hv with rfl|hv
    ·exact ⟨(by intro e;cases e),rfl⟩
    ·exact h3 v hv
   cases mx
   ·simp only[cond_false]at h
    by_cases hc:b<a
    ·exact fin b (by simp [YT,hc]) (h.1 hc)
    ·exact fin a (by simp [YT,hc]) (h.2 (by omega))
   ·simp only[cond_true]at h
    by_cases hc:a<b
    ·exact fin b (by simp [YT,hc]) (h.1 hc)
    ·exact fin a (by simp [YT,hc]) (h.2 (by omega))
  | _=>exact (h:False).elim
theorem AfP {mx:Bool} {xs:List AQ} (hr:RX σ tm M st) (h:XE L tm M g7 K (.mm mx xs)):BR L tm g7 K (.mm mx xs) st:=by
 simp only[XE]at h;split at h
 ·rename_i k a r e
  obtain ⟨n,h1,h2,h3⟩:=Wq (σ:=σ) h;refine BR.val hr (.int k n) (λ C => ?_) h2;have hx : ∀ v∈ZN tm xs,v ≠ .any:=by
   rw[e];intro v hv;rcases List.mem_cons.1 hv with rfl|hv
   ·intro e;cases e
   ·exact (h3 v hv).1
  have hm:(ZN tm xs).map (BG σ) = .int k a::r:=by
   rw[e,List.map_cons];congr 1;conv=>rhs;rw[<-List.map_id r]
   exact List.map_congr_left λ v hv=>(h3 v hv).2
  simp only[j6];rw[show xs.map st.ev = .int k a::r from (evL hr hx).trans hm];simp only[h1,Option.map_some,G4]
 ·exact h.elim
theorem AmT (hr:RX σ tm M st) {k t:Nat} {K:Nat->List (List AV)->Prop} (h:uS M k t K) : ∃ z es,(st.own (σ k t).1).j5 (σ k t).2=some ⟨z,es⟩/\K z es:=by
 unfold uS at h;split at h
 ·rename_i s c hm
  split at h
  ·split at h
   ·exact ⟨_,_,hr.sat.j5 _ _ _ (DZ hm),h⟩
   ·exact h.elim
  ·rename_i i
   split at h
   ·rename_i rows
    obtain ⟨z,es,g,h⟩:=h;exact ⟨z,es,hr.sat.j5 k (i+1) (.rw z es) (by simp [c7,hm,g]),h⟩
   ·exact h.elim
 ·exact h.elim
theorem Anu {own n0:AH} {s t i j:Nat} {vs:List AV} (h:own.nv s t i j vs=some n0):own.put s (n0 s)=n0:=by
 unfold AH.nv at h;cases hg:own.get s t with
 | none=>simp [hg]at h
 | some b =>
  simp only[hg]at h;cases he:b.es[i]? with
  | none=>simp [he]at h
  | some cs =>
   simp only[he]at h;split at h
   ·obtain rfl:=Option.some.inj h
    rw[AH.k9]
   ·cases h
theorem AfU {s n:Nat} {x v:AQ} (hr:RX σ tm M st) (h:XE L tm M g7 K (.px s n x v)):BR L tm g7 K (.px s n x v) st:=by
 simp only[XE]at h;split at h
 ·rename_i key i j e1
  split at h
  ·rename_i s' c hm
   cases hb:Nat.beq s' s<;>simp only[hb,cond_true,cond_false]at h;obtain rfl:=BL.1 hb;have gp:=hr.sat.site _ _ _ hm;obtain ⟨E,σ',v',M',h1,h2,h3,h4⟩:=xB (g7:=g7) (L:=L) hr (show XE L tm M g7 K (.st n x v) from h);have ck:=hr.ev e1 (by intro e;cases e);rw[EI,gp]at ck;have key : ∀ vs,cellsOf (st.ev v)=some vs->vs.length=n -> ∃ o',st.own.nv s' (σ key 0).2 i j vs=some o'/\E = .fk (.j9 []) o':=λ vs jo hn=>by
    have:=h1 0
    simp only[j6,ck,jo]at this;rw[if_pos hn,Option.map_eq_some_iff]at this;obtain ⟨o',a1,a2⟩:=this;exact ⟨o',a1,a2.symm⟩
   cases jo:cellsOf (st.ev v) with
   | none=>have:=h1 0;simp [j6,ck,jo]at this
   | some vs =>
    by_cases hn:vs.length=n
    ·obtain ⟨o',a1,rfl⟩:=key vs jo hn
     refine ⟨.u7 s' (o' s'),σ',v',M',λ C => ?_,h2,h3,?_⟩
     ·simp only[j6,ck,jo]
      rw[if_pos ⟨trivial,hn⟩,a1];rfl
     ·have e2:(CG.res st.own (.u7 s' (o' s'))).2=o':=Anu a1
      rw[e2];exact h4
    ·have:=h1 0
     simp only[j6,ck,jo]at this;rw[if_neg hn]at this;cases this
  ·exact h.elim
 ·exact h.elim
theorem AfI {ne:Bool} {x:AQ} (hr:RX σ tm M st) (h:XE L tm M g7 K (.vb ne x)):BR L tm g7 K (.vb ne x) st:=by
 simp only[XE]at h;split at h
 ·rename_i e1
  rw[YK]at h;exact BR.val hr _ (λ C=>by simp only[j6,hr.ev e1 (by intro e;cases e),E9,G3]) h
 ·rename_i b e1
  rw[YK]at h;exact BR.val hr _ (λ C=>by simp only[j6,hr.ev e1 (by intro e;cases e),AmU,G3]) h
 ·rename_i q es e1
  obtain ⟨h0,h⟩:=h;rw[YK]at h;cases es with
  | nil=>exact absurd rfl h0
  | cons e es=>exact BR.val hr _ (λ C=>by simp only[j6,hr.ev e1 (by intro e;cases e),H4,G3]) h
 ·rename_i s t z o n e1
  obtain ⟨h0,h⟩:=h;rw[YK]at h;cases n with
  | zero=>exact absurd h0 (by omega)
  | succ n=>exact BR.val hr _ (λ C=>by simp only[j6,hr.ev e1 (by intro e;cases e),DG,G3]) h
 ·exact h.elim
theorem Afy {x:AQ} (hr:RX σ tm M st) (h:XE L tm M g7 K (.gf x)):BR L tm g7 K (.gf x) st:=by
 simp only[XE]at h;split at h
 ·rename_i e
  exact BR.val hr _ (λ C=>by simp only[j6,hr.ev e (by intro e;cases e),E9];rfl) h
 ·exact h.elim
theorem Afs {s z bytes:Nat} {x y:AQ} (hr:RX σ tm M st) (h:XE L tm M g7 K (.pz s z bytes x y)):BR L tm g7 K (.pz s z bytes x y) st:=by
 simp only[XE]at h;split at h
 ·rename_i k n e1 e2
  cases ik:EY s<;>simp only[ik,cond_true,cond_false]at h;obtain ⟨⟨g1,g2,g3⟩,h⟩:=h;obtain ⟨k,h1,h2,h3⟩:=HO h;refine ⟨.new s ⟨z,[]⟩ (λ t => .row s t z 0 n.toNat),_,_,_,λ C => ?_,h3,?_,hr.gx h1 h2 (.rw z []) trivial rfl (λ_=>ik)⟩
  ·simp only[j6,hr.ev e1 (by intro e;cases e),hr.ev e2 (by intro e;cases e),G4,E9]
   rw[if_pos ⟨g1,g2,g3⟩]
  ·simp only[CG.res,DG,BV]
 ·exact h.elim
theorem AfS {tb:List Nat} {x:AQ} (hr:RX σ tm M st) (h:XE L tm M g7 K (.jg tb x)):BR L tm g7 K (.jg tb x) st:=by
 simp only[XE]at h;split at h
 ·rename_i k n e1
  obtain ⟨h0,v,h1,h2⟩:=h;exact BR.val hr _ (λ C=>by simp only[j6,hr.ev e1 (by intro e;cases e),G4,h1];rw[if_pos h0]) h2
 ·exact h.elim
theorem Aj8 {v:AV} {K:AV->Prop} (h:fF v K):v ≠ .any/\GZ (BG σ v)=some (A7 σ v)/\K v:=by
 cases v<;>first|exact (h:False).elim|exact ⟨(by intro e;cases e),rfl,h⟩
theorem Wx (hr:RX σ tm M st) : ∀ {l:List AQ} {K:List AV->Prop},tN tm l K -> ∃ cs,l.mapM (λ x=>GZ (st.ev x))=some (cs.map (A7 σ))/\K cs
 | [],K,h=>⟨[],rfl,h⟩
 | x::r,K,h=>by
  obtain ⟨h0,hc,h⟩:=Aj8 (σ:=σ) (show fF (ex tm x) λ v=>tN tm r λ cs=>K (v::cs) from h);obtain ⟨cs,h1,h2⟩:=Wx hr h;refine ⟨ex tm x::cs,?_,h2⟩;rw[List.mapM_cons,h1,hr.ev rfl h0,hc];rfl
theorem AfO {p:Bool} {f:Nat} {xs:List AQ} (hr:RX σ tm M st) (h:XE L tm M g7 K (.si p f xs)):BR L tm g7 K (.si p f xs) st:=by
 simp only[XE]at h;obtain ⟨cs,h1,h2⟩:=Wx hr h;exact BR.val hr _ (λ C=>by simp only[j6,h1,Option.map_some,iU,List.isEmpty_map];rfl) h2
theorem AfN {f:Nat} {x:AQ} (hr:RX σ tm M st) (h:XE L tm M g7 K (.tu f x)):BR L tm g7 K (.tu f x) st:=by
 simp only[XE]at h;split at h
 ·rename_i c cs e1
  exact BR.val hr _ (λ C=>by simp only[j6,hr.ev e1 (by intro e;cases e),HK,iU,List.map_cons];rfl) h
 ·exact h.elim
theorem Aiw (hr:RX σ tm M st) {v:AV} {K:List (List AV)->Prop} (h:lJ M v K):v ≠ .any /\ ∃ es,EQ st.own (BG σ v)=some es/\K es:=by
 cases v with
 | sl q es=>exact ⟨(by intro e;cases e),_,rfl,h⟩
 | nil=>exact ⟨(by intro e;cases e),_,rfl,h⟩
 | ep v =>
  cases v with
  | bool b=>exact ⟨(by intro e;cases e),_,rfl,h⟩
  | _=>exact (h:False).elim
 | row key t z off len =>
  simp only[lJ]at h;obtain ⟨z',es,g,h⟩:=AmT hr h;cases hz:Nat.beq z z'<;>simp only[hz,cond_true,cond_false]at h;obtain rfl:=BL.1 hz;refine ⟨(by intro e;cases e),_,?_,h.2⟩;simp only[DG,EQ,AH.get,g];rw[if_pos ⟨h.1,trivial⟩]
 | _=>exact (h:False).elim
theorem tO (hr:RX σ tm M st) {o:Option AQ} {K:Option Int->Prop} (h:mS tm o K):(o=none/\K none) \/ ∃ x k n,o=some x/\st.ev x = .int k n/\K (some n):=by
 unfold mS at h;split at h
 ·exact Or.inl ⟨rfl,h⟩
 ·split at h
  ·rename_i e
   exact Or.inr ⟨_,_,_,rfl,hr.ev e (by intro e;cases e),h⟩
  ·exact h.elim
theorem AfT {z:Nat} {x:AQ} {lo hi:Option AQ} (hr:RX σ tm M st) (h:XE L tm M g7 K (.jq z x lo hi)):BR L tm g7 K (.jq z x lo hi) st:=by
 simp only[XE]at h;have go : ∀ (a b:Option Int),(match ex tm x with
   | .sl l es=>B9 z es a b λ es=>K (.sl l es) M
   | .row key t z' off len=>bif Nat.beq z' z then BX a b len λ a h=>K (.row key t z (off+a) (h-a)) M else False
   | .nil=>(match a,b with
    | none,none=>K .nil M
    | some a,none=>AP (a=0) (K .nil M)
    | none,some h=>AP (h=0) (K .nil M)
    | some a,some h=>AP (a=0/\h=0) (K .nil M))
   | _=>False)->(lo=none/\a=none \/ ∃ y k n,lo=some y/\st.ev y = .int k n/\a=some n)->(hi=none/\b=none \/ ∃ y k n,hi=some y/\st.ev y = .int k n/\b=some n)->BR L tm g7 K (.jq z x lo hi) st:=by
  intro a b h ha hb;split at h
  ·rename_i q es e
   obtain ⟨g1,a',h',g2,g3,g4,h⟩:=h;refine BR.val hr _ (λ C => ?_) h;rcases ha with ⟨rfl,rfl⟩|⟨y,k,n,rfl,e1,rfl⟩<;>rcases hb with ⟨rfl,rfl⟩|⟨y',k',n',rfl,e2,rfl⟩<;>try simp only at g2 g3<;>simp only[j6,hr.ev e (by intro e;cases e),H4, *]<;>simp_all
  ·rename_i key t z' off len e
   cases hz:Nat.beq z' z<;>simp only[hz,cond_true,cond_false]at h;obtain rfl:=BL.1 hz;obtain ⟨a',h',g2,g3,g4,h⟩:=h;refine BR.val hr _ (λ C => ?_) h;rcases ha with ⟨rfl,rfl⟩|⟨y,k,n,rfl,e1,rfl⟩<;>rcases hb with ⟨rfl,rfl⟩|⟨y',k',n',rfl,e2,rfl⟩<;>try simp only at g2 g3<;>simp only[j6,hr.ev e (by intro e;cases e),DG, *]<;>simp_all
  ·rename_i e
   rcases ha with ⟨rfl,rfl⟩|⟨y,k,n,rfl,e1,rfl⟩<;>rcases hb with ⟨rfl,rfl⟩|⟨y',k',n',rfl,e2,rfl⟩<;>simp only at h
   ·exact BR.val hr .nil (λ C=>by simp only[j6,hr.ev e (by intro e;cases e),E9]) h
   ·exact BR.val hr .nil (λ C=>by simp only[j6,hr.ev e (by intro e;cases e),E9,e2,h.1,if_true]) h.2
   ·exact BR.val hr .nil (λ C=>by simp only[j6,hr.ev e (by intro e;cases e),E9,e1,h.1,if_true]) h.2
   ·exact BR.val hr .nil (λ C=>by simp only[j6,hr.ev e (by intro e;cases e),E9,e1,e2,h.1.1,h.1.2,if_true]) h.2
  ·exact h.elim
 rcases tO hr h with ⟨h1,h⟩|⟨y,k,n,h1,h2,h⟩
 ·rcases tO hr h with ⟨g1,h⟩|⟨y,k,n,g1,g2,h⟩
  ·exact go _ _ h (Or.inl ⟨h1,rfl⟩) (Or.inl ⟨g1,rfl⟩)
  ·exact go _ _ h (Or.inl ⟨h1,rfl⟩) (Or.inr ⟨_,_,_,g1,g2,rfl⟩)
 ·rcases tO hr h with ⟨g1,h⟩|⟨y',k',n',g1,g2,h⟩
  ·exact go _ _ h (Or.inr ⟨_,_,_,h1,h2,rfl⟩) (Or.inl ⟨g1,rfl⟩)
  ·exact go _ _ h (Or.inr ⟨_,_,_,h1,h2,rfl⟩) (Or.inr ⟨_,_,_,g1,g2,rfl⟩)
theorem nE {s key:Nat} : ∀ {M:Mem},G2 s M=false->G2 s (u5 key M)=false
 | [],_=>rfl
 | (i,s0,c0)::r,h=>by
  simp only[G2]at h;cases q0:Nat.beq s i<;>simp only[q0,cond_true,cond_false]at h
  ·cases q1:HE s c0<;>simp only[q1,cond_true,cond_false]at h
   ·simp only[u5]
    cases Nat.beq key i
    ·simp only[cond_false,G2,q0,q1,nE h]
    ·simp only[cond_true,nE h]
   ·cases h
  ·cases h
theorem Afq {s z bytes:Nat} {x y:AQ} (hr:RX σ tm M st) (h:lJ M (ex tm y) λ ys=>match ex tm x with
   | .row key 0 z' off len=>bif Nat.beq off 0 then bif Nat.beq z' z then (match g9 M key with
    | some (s',.rw jr es)=>bif Nat.beq jr z then fM (u5 key M) λ M'=>(BO es len ys z bytes λ es' n=>F9 s tm M λ k=>K (.row k 0 z 0 n) ((k,s',.rw z es')::M')) else False
    | _=>False) else False else False
   | .row key (i+1) z' off len=>bif Nat.beq off 0 then bif Nat.beq z' z then (match g9 M key with
    | some (sk,.mx rows)=>fM (u5 key M) λ M'=>BI rows i λ jr es=>bif Nat.beq jr z then (BO es len ys z bytes λ es' n => ∀ s' v,F9 s tm M λ k=>K (.row k 0 z 0 n) ((k,s',.rw z es')::(key,sk,.hx i v (rows.set i none))::M')) else False
    | _=>False) else False else False
   | .nil=>bif EY s then B8 ys z bytes λ es n=>F9 s tm M λ k=>K (.row k 0 z 0 n) ((k,s,.rw z es)::M) else False
   | _=>False):BR L tm g7 K (.app s z bytes x y) st:=by
 obtain ⟨h0,ys,hy,h⟩:=Aiw hr h;have vt:EQ st.own (st.ev y)=some ys:=by rw[hr.ev rfl h0];exact hy
 split at h
 ·rename_i key z' off len e
  cases ho:Nat.beq off 0<;>simp only[ho,cond_true,cond_false]at h;cases hz:Nat.beq z' z<;>simp only[hz,cond_true,cond_false]at h;obtain rfl:=BL.1 ho;obtain rfl:=BL.1 hz;split at h
  ·rename_i s' jr es hm
   cases zd:Nat.beq jr z'<;>simp only[zd,cond_true,cond_false]at h;obtain rfl:=BL.1 zd;rw[O5]at h;obtain ⟨g1,g2,g3,g4,h⟩:=h;obtain ⟨k,h1,h2,h3⟩:=HO h;have hs:=hr.sat.site _ _ _ hm;have bh:=hr.sat.j5 _ _ _ (DZ hm);have hn:=(hr.kill hm).gx (s:=k) (q:=s') (nE h1) h2 (.rw jr (es.take len++ys)) trivial rfl (λ_=>by have:=hr.sat.low _ _ _ (DZ hm) rfl;rwa [hs]at this);have Ci:(st.own.put s' ((st.own s').u7 (σ key 0).2 none)).k6 s'=st.own.k6 s':=by simp [AH.k6,AH.k9,CH.u7]
   simp only[AH.k9,AH.nu,Ci]at hn;refine ⟨.fk (.row s' (st.own.k6 s') jr 0 (len+ys.length)) (st.own.put s' (((st.own s').u7 (σ key 0).2 none).new ⟨jr,es.take len++ys⟩)),_,_,_,λ C => ?_,h3,?_,hn⟩
   ·rw[hs]at bh
    simp only[j6,vt,hr.ev e (by intro e;cases e),DG,AH.get,hs,bh,A5.j5];rw[if_pos g2,if_pos ⟨trivial,trivial,g1,g3,g4⟩]
   ·simp only[CG.res,DG,BV]
  ·exact h.elim
 ·rename_i key i z' off len e
  cases ho:Nat.beq off 0<;>simp only[ho,cond_true,cond_false]at h;cases hz:Nat.beq z' z<;>simp only[hz,cond_true,cond_false]at h;obtain rfl:=BL.1 ho;obtain rfl:=BL.1 hz;split at h
  ·rename_i sk rows hm
   rw[O5]at h;obtain ⟨jr,es,g0,h⟩:=h;cases zd:Nat.beq jr z'<;>simp only[zd,cond_true,cond_false]at h;obtain rfl:=BL.1 zd;obtain ⟨g1,g2,g3,g4,h⟩:=h;have h:=h (σ key (i+1)).1 (.row (σ key (i+1)).1 (σ key (i+1)).2 jr 0 es.length);obtain ⟨k,h1,h2,h3⟩:=HO h;have bh:=hr.sat.j5 key (i+1) (.rw jr es) (by simp [c7,hm,g0]);have hn:=hr.Km (s:=k) (es':=es.take len++ys) hm g0 h1 h2;refine ⟨.fk (.row (σ key (i+1)).1 (st.own.k6 (σ key (i+1)).1) jr 0 (len+ys.length)) (st.own.put (σ key (i+1)).1 (((st.own (σ key (i+1)).1).u7 (σ key (i+1)).2 none).new ⟨jr,es.take len++ys⟩)),_,_,_,λ C => ?_,h3,?_,hn⟩
   ·simp only[j6,vt,hr.ev e (by intro e;cases e),DG,AH.get,bh,A5.j5]
    rw[if_pos g2,if_pos ⟨trivial,trivial,g1,g3,g4⟩]
   ·simp only[CG.res,DG,BV]
  ·exact h.elim
 ·rename_i e
  cases ik:EY s<;>simp only[ik,cond_true,cond_false]at h;obtain ⟨g2,g3,g4,h⟩:=h;obtain ⟨k,h1,h2,h3⟩:=HO h;refine ⟨.fk (.row s (st.own.k6 s) z 0 ys.length) (st.own.put s ((st.own s).new ⟨z,ys⟩)),_,_,_,λ C => ?_,h3,?_,hr.gx h1 h2 (.rw z ys) trivial rfl (λ_=>ik)⟩
  ·simp only[j6,vt,hr.ev e (by intro e;cases e),E9]
   rw[if_pos g2,if_pos ⟨g3,g4⟩]
  ·simp only[CG.res,DG,BV]
 ·exact h.elim
theorem Af3 {v:AV} {ky k2 z n:Nat} (h:aI M v=some (ky,some (k2,z,n))):v = .row ky 0 1 0 1 /\ ∃ sy,g9 M ky=some (sy,.bs 1 [[.row k2 0 z 0 n]]):=by
 unfold aI at h;split at h
 ·split at h
  ·rename_i hm
   simp only[Option.some.injEq,Prod.mk.injEq]at h;obtain ⟨rfl,rfl,rfl,rfl⟩:=h;exact ⟨rfl,_,hm⟩
  ·simp at h
  ·cases h
 ·cases h
theorem Af2 {v:AV} {ky:Nat} (h:aI M v=some (ky,none)):v = .row ky 0 1 0 1 /\ ∃ sy,g9 M ky=some (sy,.rw 1 [[.nil]]):=by
 unfold aI at h;split at h
 ·split at h
  ·simp at h
  ·rename_i hm
   simp only[Option.some.injEq,Prod.mk.injEq,and_true]at h;subst h;exact ⟨rfl,_,hm⟩
  ·cases h
 ·cases h
theorem To {z:Nat} : ∀ {es:List (List AV)},gY z es=true -> ∀ e∈es,e.length=z
 | [],_,e,he=>by cases he
 | a::r,h,e,he=>by
  simp only[gY]at h;cases h1:Nat.beq a.length z<;>simp only[h1,cond_true,cond_false]at h
  ·cases h
  ·rcases List.mem_cons.1 he with rfl|he
   ·exact BL.1 h1
   ·exact To h e he
theorem Wj {k:Nat} {b:List (List AV)} (r2:J7 k b=false) : ∀ {a:List (List AV)},J7 k a=false->J7 k (a++b)=false
 | [],_=>r2
 | c::a,h=>by
  simp only[J7,List.cons_append]at h ⊢;cases hq:II k c<;>simp only[hq,cond_true,cond_false]at h ⊢
  ·exact Wj r2 h
  ·cases h
theorem Afr {s z bytes:Nat} {x y:AQ} (hr:RX σ tm M st) (h:oU tm M s z bytes x y K):BR L tm g7 K (.app s z bytes x y) st:=by
 unfold oU at h;split at h
 ·rename_i ky zy ny ey
  split at h
  ·rename_i sy z2 mu tn
   cases a1:Nat.beq zy z<;>simp only[a1,cond_true,cond_false]at h;cases a2:Nat.beq z2 z<;>simp only[a2,cond_true,cond_false]at h;cases a3:Nat.beq ny mu.length<;>simp only[a3,cond_true,cond_false]at h;cases a4:gY z mu<;>simp only[a4,cond_true,cond_false]at h;have b1:=BL.1 a1;have b2:=BL.1 a2;have b3:=BL.1 a3;subst b1 b2 b3;have ml:=hr.sat.site _ _ _ tn;have qe:=hr.sat.j5 _ _ _ (DZ tn);rw[ml]at qe
   have Bx:EQ st.own (st.ev y)=some (mu.map λ cs=>cs.map (A7 σ)):=by
    rw[hr.ev ey (by intro e;cases e)];simp only[DG,EQ,AH.get,ml,qe,A5.j5];rw[if_pos (by simp),List.drop_zero,List.take_of_length_le (by simp)]
   have cj : ∀ e∈mu.map (λ cs=>cs.map (A7 σ)),e.length=z2:=λ e he=>by
    obtain ⟨c,hc,rfl⟩:=List.mem_map.1 he;rw[List.length_map];exact To a4 c hc
   split at h
   ·rename_i e
    cases ik:EY s<;>simp only[ik,cond_true,cond_false]at h;obtain ⟨⟨g3,g4⟩,h⟩:=sT h;obtain ⟨k,h1,h2,h3⟩:=HO h;have yv:HE k (.bs z2 mu)=false:=(X0 h1 _ _ _ tn).2;refine ⟨.fk (.row s (st.own.k6 s) z2 0 mu.length) (st.own.put s ((st.own s).new ⟨z2,mu.map λ cs=>cs.map (A7 σ)⟩)),_,_,_,λ C => ?_,h3,?_,hr.gx h1 h2 (.bs z2 mu) trivial yv (λ_=>ik)⟩
    ·simp only[j6,Bx,hr.ev e (by intro e;cases e),E9]
     rw[if_pos cj,if_pos ⟨by simpa [EB] using g3,by simpa using g4⟩,List.length_map]
    ·simp only[CG.res,DG,BV]
   ·rename_i kx zx len e
    cases c1:Nat.beq zx z2<;>simp only[c1,cond_true,cond_false]at h;split at h
    ·rename_i s' z1 yf hm
     cases c2:Nat.beq z1 z2<;>simp only[c2,cond_true,cond_false]at h;cases c3:Nat.beq len yf.length<;>simp only[c3,cond_true,cond_false]at h;have d1:=BL.1 c1;have d2:=BL.1 c2;have d3:=BL.1 c3;subst d1 d3;rw[O5]at h;obtain ⟨⟨g3,g4⟩,h⟩:=sT h;obtain ⟨k,h1,h2,h3⟩:=HO h;have hs:=hr.sat.site _ _ _ hm;have bh:=hr.sat.j5 _ _ _ (DZ hm);have r1:J7 k yf=false:=(X0 h1 _ _ _ hm).2;have r2:J7 k mu=false:=(X0 h1 _ _ _ tn).2;have yv:HE k (.bs zx (yf++mu))=false:=by
      exact Wj r2 r1
     have hn:=(hr.kill hm).gx (s:=k) (q:=s') (nE h1) h2 (.bs zx (yf++mu)) trivial yv (λ_=>by have:=hr.sat.low _ _ _ (DZ hm) rfl;rwa [hs]at this);have Ci:(st.own.put s' ((st.own s').u7 (σ kx 0).2 none)).k6 s'=st.own.k6 s':=by simp [AH.k6,AH.k9,CH.u7]
     simp only[AH.k9,AH.nu,Ci,A5.j5,List.map_append]at hn;rw[hs]at bh;refine ⟨.fk (.row s' (st.own.k6 s') zx 0 (yf.length+mu.length)) (st.own.put s' (((st.own s').u7 (σ kx 0).2 none).new ⟨zx,yf.map (λ cs=>cs.map (A7 σ))++mu.map λ cs=>cs.map (A7 σ)⟩)),_,_,_,λ C => ?_,h3,?_,hn⟩
     ·simp only[j6,Bx,hr.ev e (by intro e;cases e),DG,AH.get,hs,bh,A5.j5]
      rw[if_pos cj,if_pos ⟨d2,trivial,by simp,by simpa [EB] using g3,by simpa using g4⟩,List.take_of_length_le (by simp),List.length_map]
     ·simp only[CG.res,DG,BV,List.length_append]
    ·exact h.elim
   ·exact h.elim
  ·exact h.elim
 ·exact h.elim
theorem Afk {s z bytes:Nat} {x y:AQ} (hr:RX σ tm M st) (h:XE L tm M g7 K (.app s z bytes x y)):BR L tm g7 K (.app s z bytes x y) st:=by
 simp only[XE]at h;cases hV:Nat.ble 800000 s<;>simp only[hV,cond_true,cond_false]at h;rotate_left
 ·exact Afr hr h
 split at h
 ·rename_i ky k2 z2 n2 Bc
  obtain ⟨sd,sy,tn⟩:=Af3 Bc;have ml:=hr.sat.site _ _ _ tn;have qe:=hr.sat.j5 _ _ _ (DZ tn);rw[ml]at qe
  have Bx:EQ st.own (st.ev y)=some [[.row (σ k2 0).1 (σ k2 0).2 z2 0 n2]]:=by
   rw[hr.ev sd (by intro e;cases e)];simp only[DG,EQ,AH.get,ml,qe,A5.j5,A7,List.map_cons,List.map_nil,List.length_cons,List.length_nil];simp
  split at h
  ·rename_i key z' off len e
   cases ho:Nat.beq off 0<;>simp only[ho,cond_true,cond_false]at h;cases hz:Nat.beq z' 1<;>simp only[hz,cond_true,cond_false]at h;cases ke:Nat.beq z 1<;>simp only[ke,cond_true,cond_false]at h;cases ln:Nat.beq key k2<;>simp only[ln,cond_true,cond_false]at h;cases Ni:Nat.beq key ky<;>simp only[Ni,cond_true,cond_false]at h;cases hk3:Nat.beq k2 ky<;>simp only[hk3,cond_true,cond_false]at h;obtain rfl:=BL.1 ho;obtain rfl:=BL.1 hz;obtain rfl:=BL.1 ke;split at h
   ·rename_i s2 z3 es jk
    cases Ip:Nat.beq z2 z3<;>simp only[Ip,cond_true,cond_false]at h;obtain rfl:=BL.1 Ip;split at h
    ·rename_i s' rows hm
     rw[O5]at h;obtain ⟨rfl,rfl,g3,g4,h⟩:=h;obtain ⟨k,h1,h2,h3⟩:=HO h;have hs:=hr.sat.site _ _ _ hm;have bh:=hr.sat.j5 _ _ _ (DZ hm);rw[hs]at bh;refine ⟨.fk (.row s' (st.own.k6 s') 1 0 (rows.length+1)) (st.own.put s' (((st.own s').u7 (σ key 0).2 none).new ⟨1,B5 σ key 0 rows++[[.row (σ k2 0).1 (σ k2 0).2 z2 0 es.length]]⟩)),_,_,_,λ C => ?_,h3,?_,hr.Kn (ky:=ky) hm jk (FK.1 ln) h1 h2⟩
     ·simp only[j6,Bx,hr.ev e (by intro e;cases e),DG,AH.get,hs,bh,A5.j5]
      rw[if_pos (by simp),if_pos ⟨trivial,trivial,by rw[E7];exact Nat.le_refl _,by simpa using g3,by simpa using g4⟩];rw[List.take_of_length_le (by rw[E7];exact Nat.le_refl _)];rfl
     ·simp only[CG.res,DG,BV]
    ·exact h.elim
   ·exact h.elim
  ·rename_i e
   cases ik:EY s<;>simp only[ik,cond_true,cond_false]at h;cases ke:Nat.beq z 1<;>simp only[ke,cond_true,cond_false]at h;obtain rfl:=BL.1 ke;split at h
   ·rename_i s2 z3 es jk
    cases Ip:Nat.beq z2 z3<;>simp only[Ip,cond_true,cond_false]at h;obtain rfl:=BL.1 Ip;rw[O5]at h;obtain ⟨⟨rfl,g3⟩,h⟩:=h;obtain ⟨k,h1,h2,h3⟩:=HO h;obtain ⟨σ',q1,q2⟩:=hr.Px (q:=s) jk (λ e=>(X0 h1 _ _ _ jk).1 e.symm) h1 h2 ik;refine ⟨.fk (.row s (st.own.k6 s) 1 0 1) (st.own.put s ((st.own s).new ⟨1,[[.row (σ k2 0).1 (σ k2 0).2 z2 0 es.length]]⟩)),σ',_,_,λ C => ?_,h3,?_,q2⟩
    ·simp only[j6,Bx,hr.ev e (by intro e;cases e),E9]
     rw[if_pos (by simp),if_pos ⟨by simpa [EB] using g3,by simp⟩];rfl
    ·simp only[CG.res,DG,q1]
   ·exact h.elim
  ·exact h.elim
 ·rename_i ky Bc
  obtain ⟨sd,sy,tn⟩:=Af2 Bc;have ml:=hr.sat.site _ _ _ tn;have qe:=hr.sat.j5 _ _ _ (DZ tn);rw[ml]at qe
  have Bx:EQ st.own (st.ev y)=some [[.nil]]:=by
   rw[hr.ev sd (by intro e;cases e)];simp only[DG,EQ,AH.get,ml,qe,A5.j5,List.length_cons,List.length_nil];simp
  split at h
  ·rename_i key z' off len e
   cases ho:Nat.beq off 0<;>simp only[ho,cond_true,cond_false]at h;cases hz:Nat.beq z' 1<;>simp only[hz,cond_true,cond_false]at h;cases ke:Nat.beq z 1<;>simp only[ke,cond_true,cond_false]at h;cases Ni:Nat.beq key ky<;>simp only[Ni,cond_true,cond_false]at h;obtain rfl:=BL.1 ho;obtain rfl:=BL.1 hz;obtain rfl:=BL.1 ke;split at h
   ·rename_i s' rows hm
    rw[O5]at h;obtain ⟨rfl,g3,g4,h⟩:=h;obtain ⟨k,h1,h2,h3⟩:=HO h;have hs:=hr.sat.site _ _ _ hm;have bh:=hr.sat.j5 _ _ _ (DZ hm);rw[hs]at bh;refine ⟨.fk (.row s' (st.own.k6 s') 1 0 (rows.length+1)) (st.own.put s' (((st.own s').u7 (σ key 0).2 none).new ⟨1,B5 σ key 0 rows++[[.nil]]⟩)),_,_,_,λ C => ?_,h3,?_,hr.Ko hm h1 h2⟩
    ·simp only[j6,Bx,hr.ev e (by intro e;cases e),DG,AH.get,hs,bh,A5.j5]
     rw[if_pos (by simp),if_pos ⟨trivial,trivial,by rw[E7];exact Nat.le_refl _,by simpa using g3,by simpa using g4⟩];rw[List.take_of_length_le (by rw[E7];exact Nat.le_refl _)];rfl
    ·simp only[CG.res,DG,BV]
   ·exact h.elim
  ·rename_i e
   cases ik:EY s<;>simp only[ik,cond_true,cond_false]at h;cases ke:Nat.beq z 1<;>simp only[ke,cond_true,cond_false]at h;obtain rfl:=BL.1 ke;obtain ⟨g3,h⟩:=h;obtain ⟨k,h1,h2,h3⟩:=HO h;have fo:A5.flat (.mx [none]):=by
    intro i x hx;cases i with
    | zero=>simp at hx
    | succ i=>simp at hx
   refine ⟨.fk (.row s (st.own.k6 s) 1 0 1) (st.own.put s ((st.own s).new ⟨1,[[.nil]]⟩)),_,_,_,λ C => ?_,h3,?_,hr.gx h1 h2 (.mx [none]) fo rfl (λ_=>ik)⟩
   ·simp only[j6,Bx,hr.ev e (by intro e;cases e),E9]
    rw[if_pos (by simp),if_pos ⟨by simpa [EB] using g3,by simp⟩];rfl
   ·simp only[CG.res,DG,BV]
  ·exact h.elim
 ·exact Afq hr h
