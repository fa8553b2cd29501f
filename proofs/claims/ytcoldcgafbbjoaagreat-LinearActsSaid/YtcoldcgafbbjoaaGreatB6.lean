/-
  The walk by computation is sound.
-/
import Derived.Test.YtcoldcgafbbjoaaGreatB5
set_option linter.unusedSimpArgs false
set_option linter.unusedVariables false
set_option linter.unnecessarySimpa false
namespace Go.g6
theorem BQ {a b:Nat}:Nat.beq a b=true↔a=b:=⟨Nat.eq_of_beq_eq_true,λ h=>by subst h;simp⟩
theorem FD {a b:Nat}:Nat.beq a b=false↔a≠b:=by
 constructor
 ·exact Nat.ne_of_beq_eq_false
 ·intro h
  cases e:Nat.beq a b
  ·rfl
  ·exact absurd (Nat.eq_of_beq_eq_true e) h
theorem K3 (j:Nat) : ∀ tm:Tm,tg tm j=j4 tm j
 | []=>rfl
 | (i,v)::r=>by
  simp only[tg,WM,K3 j r];cases e:Nat.beq j i
  ·rw[if_neg (FD.1 e)];rfl
  ·rw[if_pos (BQ.1 e)];rfl
theorem G0 : ∀ (l:List AV) (K:List AV->Prop),fL l K=K l
 | [],_=>rfl
 | v::r,K=>by rw[fL,G0 r]
theorem TB : ∀ (l:Tm) (K:Tm->Prop),fT l K=K l
 | [],_=>rfl
 | (i,v)::r,K=>by rw[fT,TB r]
theorem OW : ∀ (l:Mem) (K:Mem->Prop),fM l K=K l
 | [],_=>rfl
 | (k,s,c)::r,K=>by rw[fM,OW r]
theorem Zk (n:Nat) (K:Nat->Prop):fN n K=K n:=by cases n<;>rfl
theorem bE (m i:Nat):bit m i=m.testBit i:=by
 have h:Nat.land (Nat.shiftRight m i) 1=(m >>> i)%2:=Nat.and_one_is_mod (m >>> i);have ht:m.testBit i=decide ((m >>> i)%2=1):=by
  rw[Nat.testBit,Nat.and_comm,Nat.and_one_is_mod];rcases Nat.mod_two_eq_zero_or_one (m >>> i) with e|e<;>simp [e]
 unfold bit;rw[h,ht];rcases Nat.mod_two_eq_zero_or_one (m >>> i) with e|e<;>rw[e]<;>rfl
theorem kN (m i j:Nat):bit (Nat.lor m (Nat.shiftLeft 1 i)) j=(bit m j||decide (j=i)):=by
 rw[bE,bE];show (m ||| (1 <<< i)).testBit j=_;rw[Nat.testBit_or,Nat.testBit_shiftLeft];congr 1;by_cases h:j=i
 ·subst h;simp
 ·by_cases h2:j≥i
  ·obtain ⟨d,rfl⟩ : ∃ d,j=i+d+1:=⟨j-i-1,by omega⟩
   rw[show i+d+1-i=d+1 by omega,Nat.testBit_succ];simp [h]
  ·simp [h2,h]
theorem kM : ∀ (ts:List Nat) (m j:Nat),bit (mask m ts) j=(bit m j||ts.contains j)
 | [],m,j=>by simp [mask]
 | t::ts,m,j=>by
  rw[mask,kM ts,kN,List.contains_cons,Bool.or_assoc];congr 2
theorem bF (j:Nat):bit 0 j=false:=by rw[bE];simp
theorem WK (j:Nat) : ∀ (tm:Tm) (m:Nat),tg (ye m tm) j=bif bit m j then .any else tg tm j
 | [],m=>by cases bit m j<;>rfl
 | (i,v)::r,m=>by
  simp only[ye];cases hb:bit m i
  ·simp only[cond_false,tg,WK j r,kN]
   cases hj:Nat.beq j i
   ·have:decide (j=i)=false:=by simpa using FD.1 hj
    simp only[cond_false,this,Bool.or_false]
   ·obtain rfl:=BQ.1 hj
    simp only[cond_true,hb,cond_false]
  ·simp only[cond_true,tg,WK j r]
   cases hj:Nat.beq j i
   ·rfl
   ·obtain rfl:=BQ.1 hj
    simp only[hb,cond_true]
theorem YN {v:AV} {K:AV->Prop} (h:fV v K):v ≠ .any/\K v:=by
 cases v<;>simp only[fV,G0]at h<;>first|exact h.elim|exact ⟨(by intro e;cases e),h⟩
theorem YM {v:AV} {K:List AV->Prop} (h:fC v K):v ≠ .any /\ ∃ cs,cellsOf v=some cs/\K cs:=by
 cases v<;>simp only[fC,fV,G0]at h<;>first|exact h.elim|exact ⟨(by intro e;cases e),_,rfl,h⟩
theorem PU (b:Bool) (K:Bool->Prop):fB b K=K b:=by cases b<;>rfl
theorem wD {k:Nat} {tm:Tm} {M:Mem} (h:used k tm M=false):GU k M=false/\HT k tm=false:=by
 unfold used at h;cases h1:GU k M<;>simp only[h1,cond_true,cond_false]at h
 ·exact ⟨rfl,h⟩
 ·cases h
theorem sX {tm:Tm} {M:Mem} {K:Nat->Prop} : ∀ {l:List Nat},ZK tm M l K -> ∃ k,GU k M=false/\HT k tm=false/\K k
 | [],h=>h.elim
 | k::r,h=>by
  simp only[ZK]at h;cases h0:used k tm M<;>simp only[h0,cond_true,cond_false]at h
  ·exact ⟨k,(wD h0).1,(wD h0).2,h⟩
  ·exact sX h
theorem HW {s:Nat} {tm:Tm} {M:Mem} {K:Nat->Prop} (h:GN s tm M K) : ∃ k,GU k M=false/\HT k tm=false/\K k:=sX h
section
variable {σ:E7}
def C5 (σ:E7) (k:Nat) (f:Nat->Nat × Nat):E7:=λ j t=>if j=k then f t else σ j t
theorem CH {k j:Nat} (f:Nat->Nat × Nat) (h:j≠k):C5 σ k f j=σ j:=by funext t;simp [C5,h]
theorem BS (k:Nat) (f:Nat->Nat × Nat):C5 σ k f k=f:=by funext t;simp [C5]
theorem iD {k:Nat} {p:Nat->Nat × Nat} {v:AV} (h:NM k v=false):BA (C5 σ k p) v=BA σ v:=by
 cases v with
 | row j t z o n=>simp only[NM]at h;simp only[BA,CH p (FD.1 h)]
 | ptr j t a b=>simp only[NM]at h;simp only[BA,CH p (FD.1 h)]
 | _=>rfl
theorem TY {k:Nat} {p:Nat->Nat × Nat} : ∀ {cs:List AV},IQ k cs=false->cs.map (BA (C5 σ k p))=cs.map (BA σ)
 | [],_=>rfl
 | c::r,h=>by
  simp only[IQ]at h;cases h1:NM k c<;>simp only[h1,cond_true,cond_false]at h
  ·rw[List.map_cons,List.map_cons,iD h1,TY h]
  ·cases h
theorem iB {k:Nat} {p:Nat->Nat × Nat} : ∀ {es:List (List AV)},QA k es=false->(es.map λ cs=>cs.map (BA (C5 σ k p)))=es.map λ cs=>cs.map (BA σ)
 | [],_=>rfl
 | c::r,h=>by
  simp only[QA]at h;cases h1:IQ k c<;>simp only[h1,cond_true,cond_false]at h
  ·rw[List.map_cons,List.map_cons,TY h1,iB h]
  ·cases h
theorem WH {k:Nat} {p:Nat->Nat × Nat} {v:AV} (h:O7 k v=false):BM (C5 σ k p) v=BM σ v:=by
 cases v with
 | agg cs=>simp only[O7]at h;simp only[BM,TY h]
 | fn p f g cs=>simp only[O7]at h;simp only[BM,TY h]
 | row a b c d e=>exact iD (v := .row a b c d e) h
 | ptr a b c d=>exact iD (v := .ptr a b c d) h
 | _=>rfl
theorem vE {k:Nat} {p:Nat->Nat × Nat} : ∀ {cs:List AV},TS k cs=false->cs.map (BM (C5 σ k p))=cs.map (BM σ)
 | [],_=>rfl
 | c::r,h=>by
  simp only[TS]at h;cases h1:O7 k c<;>simp only[h1,cond_true,cond_false]at h
  ·rw[List.map_cons,List.map_cons,WH h1,vE h]
  ·cases h
theorem Z6 {k:Nat} {p:Nat->Nat × Nat} {v:AV} (h:NN k v=false):BJ (C5 σ k p) v=BJ σ v:=by
 cases v with
 | g9 cs=>simp only[NN]at h;simp only[BJ,vE h]
 | agg cs=>exact WH (v := .agg cs) h
 | fn p f g cs=>exact WH (v := .fn p f g cs) h
 | row a b c d e=>exact WH (v := .row a b c d e) h
 | ptr a b c d=>exact WH (v := .ptr a b c d) h
 | _=>rfl
theorem TT {k:Nat} : ∀ {tm:Tm},HT k tm=false -> ∀ j,NN k (tg tm j)=false
 | [],_,_=>rfl
 | (i,v)::r,h,j=>by
  simp only[HT]at h;cases h1:NN k v<;>simp only[h1,cond_true,cond_false]at h
  ·simp only[tg]
   cases Nat.beq j i
   ·exact TT h j
   ·exact h1
  ·cases h
theorem RY {k:Nat} : ∀ {M:Mem},GU k M=false -> ∀ j s c,c8 M j=some (s,c)->j≠k/\HS k c=false
 | [],_,_,_,_,e=>by cases e
 | (i,s0,c0)::r,h,j,s,c,e=>by
  simp only[GU]at h;cases h0:Nat.beq k i<;>simp only[h0,cond_true,cond_false]at h
  ·cases h1:HS k c0<;>simp only[h1,cond_true,cond_false]at h
   ·simp only[c8]at e
    cases h2:Nat.beq j i<;>simp only[h2,cond_true,cond_false]at e
    ·exact RY h j s c e
    ·simp only[Option.some.injEq,Prod.mk.injEq]at e
     obtain ⟨_,rfl⟩:=e;exact ⟨λ e=>FD.1 h0 (e.symm.trans (BQ.1 h2)),h1⟩
   ·cases h
  ·cases h
theorem P1 {σ σ':E7} {k:Nat} : ∀ (rows:List (Option (Nat × List (List AV)))) (i:Nat),(∀ j,i<=j->σ k (j+1)=σ' k (j+1))->B5 σ k i rows=B5 σ' k i rows
 | [],i,h=>rfl
 | none::r,i,h=>by rw[B5,B5,P1 r (i+1) λ j hj=>h j (by omega)]
 | some (z,es)::r,i,h=>by rw[B5,B5,P1 r (i+1) λ j hj=>h j (by omega),h i (by omega)]
theorem E9 {k:Nat} : ∀ (rows:List (Option (Nat × List (List AV)))) (i j:Nat),(B5 σ k i rows)[j]? = (rows[j]?).map λ r=>match r with|none=>[.nil]|some (z,es)=>[.row (σ k (i+j+1)).1 (σ k (i+j+1)).2 z 0 es.length]
 | [],i,j=>by simp [B5]
 | none::r,i,0=>by simp [B5]
 | none::r,i,j+1=>by simp only[B5,List.getElem?_cons_succ,E9 r (i+1) j];rw[show i+1+j=i+(j+1) by omega]
 | some (z,es)::r,i,0=>by simp [B5]
 | some (z,es)::r,i,j+1=>by simp only[B5,List.getElem?_cons_succ,E9 r (i+1) j];rw[show i+1+j=i+(j+1) by omega]
theorem FA {k:Nat} : ∀ (rows:List (Option (Nat × List (List AV)))) (i:Nat),(B5 σ k i rows).length=rows.length
 | [],i=>rfl
 | none::r,i=>by simp [B5,FA r]
 | some (z,es)::r,i=>by simp [B5,FA r]
theorem XJ {k j:Nat} {f:Nat->Nat × Nat} {c:BC} (h:HS k c=false) (hj:j≠k):c.g8 (C5 σ k f) j=c.g8 σ j:=by
 cases c with
 | bx cs=>simp only[HS]at h;simp only[BC.g8,TY h]
 | rw z es=>rfl
 | bs z es=>simp only[HS]at h;simp only[BC.g8,iB h]
 | mx rows=>simp only[BC.g8];rw[P1 rows 0 λ i _=>by rw[CH f hj]]
 | hx a v rows=>simp only[BC.g8];rw[P1 rows 0 λ i _=>by rw[CH f hj]]
 | vw w rows=>simp only[BC.g8];rw[P1 rows 0 λ i _=>by rw[CH f hj]]
theorem Wg {v:AV} (h:vu v=true):BA σ v=v:=by cases v<;>first|rfl|cases h
theorem H4 : ∀ {cs:List AV},D9 cs=true->cs.map (BA σ)=cs
 | [],_=>rfl
 | c::r,h=>by
  simp only[D9]at h;cases h1:vu c<;>simp only[h1,cond_true,cond_false]at h
  ·cases h
  ·rw[List.map_cons,Wg h1,H4 h]
theorem Wf {k:Nat} {v:AV} (h:vu v=true):NM k v=false:=by cases v<;>first|rfl|cases h
theorem cC {k:Nat} : ∀ {cs:List AV},D9 cs=true->IQ k cs=false
 | [],_=>rfl
 | c::r,h=>by
  simp only[D9]at h;cases h1:vu c<;>simp only[h1,cond_true,cond_false]at h
  ·cases h
  ·simp only[IQ,Wf h1,cC h,cond_false]
theorem Vy (v:AV):cv v = .any\/(cv v=v/\BJ σ v=v):=by
 cases v with
 | agg cs =>
  simp only[cv];cases h:D9 cs
  ·exact Or.inl rfl
  ·exact Or.inr ⟨rfl,by simp only[BJ,BM,H4 h]⟩
 | g9 vs=>cases vs with
  | nil=>exact Or.inr ⟨rfl,rfl⟩
  | cons=>exact Or.inl rfl
 | fn p f g cs=>cases cs with
  | nil=>exact Or.inr ⟨rfl,rfl⟩
  | cons=>exact Or.inl rfl
 | _=>first|exact Or.inl rfl|exact Or.inr ⟨rfl,rfl⟩
theorem Vv {k:Nat} (v:AV):NN k (cv v)=false:=by
 cases v with
 | agg cs =>
  simp only[cv];cases h:D9 cs
  ·rfl
  ·exact cC h
 | g9 vs=>cases vs<;>rfl
 | fn p f g cs=>cases cs<;>rfl
 | _=>rfl
variable {tm:Tm} {M:Mem} {st:St}
theorem RX.ev (h:RX σ tm M st) {x:AP} {v:AV} (e:ex tm x=v) (hv:v ≠ .any):st.ev x=BJ σ v:=by
 cases x with
 | t n =>
  simp only[ex]at e;rcases h.tm n with h|h
  ·exact absurd (e.symm.trans h) hv
  ·rw[e]at h;exact h
 | c u =>
  simp only[ex]at e;rcases Vy (σ:=σ) u with h|⟨h,h'⟩
  ·exact absurd (e.symm.trans h) hv
  ·rw[<-e,h,h'];rfl
theorem pA {k:Nat} (h:HT k tm=false) (x:AP):NN k (ex tm x)=false:=by
 cases x with
 | t n=>exact TT h n
 | c u=>exact Vv u
theorem tL {k:Nat} {v:AV} {cs:List AV} (h:NN k v=false) (e:cellsOf v=some cs):IQ k cs=false:=by
 cases v<;>simp only[cellsOf,Option.some.injEq,reduceCtorEq]at e<;>subst e<;>first|exact h|rfl|(simp only[NN,O7]at h;simp only[IQ,h,cond_false])
theorem N2 {v:AV} {cs:List AV} (e:cellsOf v=some cs):cellsOf (BJ σ v)=some (cs.map (BA σ)):=by
 cases v<;>simp only[cellsOf,Option.some.injEq,reduceCtorEq]at e<;>subst e<;>rfl
def BC.flat:BC->Prop
 | .mx rows => ∀ (i:Nat) (x:Nat × List (List AV)),rows[i]? = some (some x)->False
 | .hx _ _ _=>False
 | .vw _ _=>False
 | _=>True
theorem EE {M:Mem} {k s:Nat} {c:BC} (h:c8 M k=some (s,c)):c5 M k 0=some c:=by simp [c5,h]
theorem GQ {M:Mem} {k t:Nat} {c:BC} (h:c5 M k t=some c) : ∃ s c0,c8 M k=some (s,c0)/\(t=0->c=c0)/\(∀ i,t=i+1 -> ∃ rows z es,((c0 = .mx rows \/ ∃ a v,c0 = .hx a v rows) \/ ∃ w,c0 = .vw w rows)/\rows[i]? = some (some (z,es))/\c = .rw z es):=by
 unfold c5 at h;cases hm:c8 M k with
 | none=>simp [hm]at h
 | some x =>
  obtain ⟨s,c0⟩:=x;simp only[hm]at h;refine ⟨s,c0,rfl,?_,?_⟩
  ·rintro rfl;exact (Option.some.inj h).symm
  ·rintro i rfl
   cases c0 with
   | mx rows =>
    simp only at h;cases hr:rows[i]? with
    | none=>simp [hr]at h
    | some r =>
     cases r with
     | none=>simp [hr]at h
     | some ze=>obtain ⟨z,es⟩:=ze;simp only[hr,Option.some.injEq]at h;exact ⟨rows,z,es,Or.inl (Or.inl rfl),hr,h.symm⟩
   | hx a v rows =>
    simp only at h;cases hr:rows[i]? with
    | none=>simp [hr]at h
    | some r =>
     cases r with
     | none=>simp [hr]at h
     | some ze=>obtain ⟨z,es⟩:=ze;simp only[hr,Option.some.injEq]at h;exact ⟨rows,z,es,Or.inl (Or.inr ⟨a,v,rfl⟩),hr,h.symm⟩
   | vw w rows =>
    simp only at h;cases hr:rows[i]? with
    | none=>simp [hr]at h
    | some r =>
     cases r with
     | none=>simp [hr]at h
     | some ze=>obtain ⟨z,es⟩:=ze;simp only[hr,Option.some.injEq]at h;exact ⟨rows,z,es,Or.inr ⟨w,rfl⟩,hr,h.symm⟩
   | _=>simp at h
theorem KR {M:Mem} {k s:Nat} {c:BC} {j t:Nat} (h:j≠k):c5 ((k,s,c)::M) j t=c5 M j t:=by
 simp only[c5,c8,FD.2 h,cond_false]
theorem P0 {M:Mem} {k s:Nat} {c:BC}:c5 ((k,s,c)::M) k 0=some c:=by simp [c5,c8]
theorem TJ {M:Mem} {k s:Nat} {c:BC} (hc:c.flat) {t:Nat} {c':BC} (h:c5 ((k,s,c)::M) k t=some c'):t=0/\c'=c:=by
 cases t with
 | zero=>rw[P0]at h;exact ⟨rfl,(Option.some.inj h).symm⟩
 | succ i =>
  simp only[c5,c8,Nat.beq_refl,cond_true]at h;cases c with
  | mx rows =>
   simp only at h;split at h
   ·rename_i z es hr
    exact (hc i (z,es) hr).elim
   ·cases h
  | hx a v rows=>exact hc.elim
  | vw w rows=>exact hc.elim
  | _=>simp at h
theorem Afa {σ σ':E7} {k k':Nat} {rows:List (Option (Nat × List (List AV)))} (h:BC.flat (.mx rows)):B5 σ k 0 rows=B5 σ' k' 0 rows:=by
 apply List.ext_getElem?;intro j;rw[E9,E9];cases hr:rows[j]? with
 | none=>rfl
 | some r=>cases r with
  | none=>rfl
  | some x=>exact (h j x hr).elim
theorem RX.jf (h:RX σ tm M st) {s q:Nat} (hm:GU s M=false) (ht:HT s tm=false) (c:BC) (hf:c.flat) (hc:HS s c=false) (hl:c.mf=true->EZ q=true) :
  RX (C5 σ s λ_=>(q,st.own.j6 q)) tm ((s,q,c)::M) ⟨st.tm,st.own.put q ((st.own q).new (c.g8 σ s))⟩:=by
 have Mi : ∀ j t c',c5 M j t=some c'->((st.own.put q ((st.own q).new (c.g8 σ s))) (σ j t).1).g8 (σ j t).2=(st.own (σ j t).1).g8 (σ j t).2:=by
  intro j t c' e;by_cases hs:(σ j t).1=q
  ·have ho:=h.sat.old _ _ _ e
   rw[hs]at ho ⊢;simp only[AH.k8,CB.new];rw[if_neg (by omega)]
  ·rw[AH.iu _ _ _ _ hs]
 have Ci : ∀ s',(st.own s').j6<=((st.own.put q ((st.own q).new (c.g8 σ s))) s').j6:=by
  intro s';by_cases hs:s'=q
  ·subst hs;simp only[AH.k8,CB.new];omega
  ·rw[AH.iu _ _ _ _ hs];exact Nat.le_refl _
 have n9 : ∀ j t c',j≠s->c5 ((s,q,c)::M) j t=some c'->c5 M j t=some c':=λ j t c' hj e=>by rwa [KR hj]at e
 have Db : ∀ j t c',c5 M j t=some c'->HS s c'=false/\j≠s:=by
  intro j t c' e;obtain ⟨s1,c0,g1,g2,g3⟩:=GQ e;obtain ⟨g4,g5⟩:=RY hm _ _ _ g1;refine ⟨?_,g4⟩;cases t with
  | zero=>rw[g2 rfl];exact g5
  | succ i=>obtain ⟨rows,z,es,_,_,rfl⟩:=g3 i rfl;rfl
 refine ⟨λ j => ?_,⟨?_,?_,?_,?_,?_⟩⟩
 ·rw[Z6 (TT ht j)];exact h.tm j
 ·intro j s' c' e
  simp only[c8]at e;cases hb:Nat.beq j s<;>simp only[hb,cond_true,cond_false]at e
  ·rw[CH _ (FD.1 hb)];exact h.sat.site _ _ _ e
  ·simp only[Option.some.injEq,Prod.mk.injEq]at e
   obtain ⟨rfl,rfl⟩:=e;rw[BQ.1 hb,BS]
 ·intro j t c' e
  by_cases hj:j=s
  ·subst hj
   obtain ⟨rfl,rfl⟩:=TJ hf e;have hb:c'.g8 (C5 σ j λ_=>(q,st.own.j6 q)) j=c'.g8 σ j:=by
    cases c' with
    | bx cs=>simp only[HS]at hc;simp only[BC.g8,TY hc]
    | rw z es=>rfl
    | bs z es=>simp only[HS]at hc;simp only[BC.g8,iB hc]
    | mx rows=>exact congrArg (D7.mk 1) (Afa hf)
    | hx a v rows=>exact hf.elim
    | vw w rows=>exact hf.elim
   rw[BS,hb];simp [AH.k8,CB.new,AH.j6]
  ·have e':=n9 j t c' hj e
   rw[CH _ hj,XJ (Db j t c' e').1 hj];exact (Mi j t c' e').trans (h.sat.g8 _ _ _ e')
 ·intro j t c' e
  by_cases hj:j=s
  ·subst hj
   rw[BS];simp [AH.k8,CB.new,AH.j6]
  ·have e':=n9 j t c' hj e
   rw[CH _ hj];exact Nat.lt_of_lt_of_le (h.sat.old _ _ _ e') (Ci _)
 ·have nu : ∀ j t c',c5 M j t=some c'->σ j t=(q,st.own.j6 q)->False:=by
   intro j t c' e hh;have h2:=h.sat.old _ _ _ e;rw[hh]at h2;exact absurd h2 (Nat.lt_irrefl _)
  intro j t j' t' c1 c2 e1 e2 hj;by_cases h1:j=s<;>by_cases h2:j'=s
  ·subst h1;subst h2
   exact ⟨rfl,(TJ hf e1).1.trans (TJ hf e2).1.symm⟩
  ·subst h1
   rw[BS,CH _ h2]at hj;exact (nu _ _ _ (n9 _ _ _ h2 e2) hj.symm).elim
  ·subst h2
   rw[BS,CH _ h1]at hj;exact (nu _ _ _ (n9 _ _ _ h1 e1) hj).elim
  ·rw[CH _ h1,CH _ h2]at hj
   exact h.sat.inj _ _ _ _ _ _ (n9 _ _ _ h1 e1) (n9 _ _ _ h2 e2) hj
 ·intro j t c' e hw
  by_cases hj:j=s
  ·subst hj
   obtain ⟨rfl,rfl⟩:=TJ hf e;rw[BS];exact hl hw
  ·rw[CH _ hj];exact h.sat.low _ _ _ (n9 j t c' hj e) hw
theorem OC {k j:Nat} {x:Nat × BC} : ∀ {M:Mem},c8 (w3 k M) j=some x->j≠k/\c8 M j=some x
 | [],e=>by cases e
 | (i,s,c)::r,e=>by
  simp only[w3]at e;cases hb:Nat.beq k i<;>simp only[hb,cond_true,cond_false]at e
  ·simp only[c8]at e ⊢
   cases hj:Nat.beq j i<;>simp only[hj,cond_true,cond_false]at e ⊢
   ·exact OC e
   ·exact ⟨λ e'=>FD.1 hb (e'.symm.trans (BQ.1 hj)),e⟩
  ·obtain ⟨h1,h2⟩:=OC e
   refine ⟨h1,?_⟩;simp only[c8];rw[FD.2 (λ e'=>h1 (e'.trans (BQ.1 hb).symm))];exact h2
theorem RT {own:AH} {p:Nat × Nat} {x:Option D7} {q:Nat × Nat} (h:q≠p):((own.put p.1 ((own p.1).v7 p.2 x)) q.1).g8 q.2=(own q.1).g8 q.2:=by
 by_cases hs:q.1=p.1
 ·rw[hs,AH.k8]
  simp only[CB.v7];rw[if_neg (λ e=>h (Prod.ext hs e))]
 ·rw[AH.iu _ _ _ _ hs]
theorem ZM {own:AH} {p:Nat × Nat} {x:Option D7}:((own.put p.1 ((own p.1).v7 p.2 x)) p.1).g8 p.2=x:=by simp [AH.k8,CB.v7]
theorem V2 {own:AH} {p:Nat × Nat} {x:Option D7} (s:Nat):((own.put p.1 ((own p.1).v7 p.2 x)) s).j6=(own s).j6:=by
 by_cases hs:s=p.1
 ·subst hs;rw[AH.k8];rfl
 ·rw[AH.iu _ _ _ _ hs]
theorem RX.Og (h:RX σ tm M st) {k s:Nat} {c:BC} (e:c8 M k=some (s,c)) (hf:c.flat) (c':BC) (od:c'.flat) (hir:c'.mf=true->c.mf=true) :
  RX σ tm ((k,s,c')::M) ⟨st.tm,st.own.put s ((st.own s).v7 (σ k 0).2 (some (c'.g8 σ k)))⟩:=by
 have hs:=h.sat.site _ _ _ e;subst hs;have e0:=EE e;have hg : ∀ j t c1,c5 ((k,(σ k 0).1,c')::M) j t=some c1->(j=k/\t=0/\c1=c')\/(j≠k/\c5 M j t=some c1):=by
  intro j t c1 e1;by_cases hj:j=k
  ·subst hj
   obtain ⟨rfl,rfl⟩:=TJ od e1;exact Or.inl ⟨rfl,rfl,rfl⟩
  ·rw[KR hj]at e1
   exact Or.inr ⟨hj,e1⟩
 have td : ∀ j t c1,c5 ((k,(σ k 0).1,c')::M) j t=some c1 -> ∃ c2,c5 M j t=some c2:=by
  intro j t c1 e1;rcases hg j t c1 e1 with ⟨rfl,rfl,rfl⟩|⟨_,h2⟩
  ·exact ⟨c,e0⟩
  ·exact ⟨c1,h2⟩
 refine ⟨h.tm,⟨?_,?_,?_,?_,?_⟩⟩
 ·intro j s' c1 e1
  simp only[c8]at e1;cases hb:Nat.beq j k<;>simp only[hb,cond_true,cond_false]at e1
  ·exact h.sat.site _ _ _ e1
  ·simp only[Option.some.injEq,Prod.mk.injEq]at e1
   rw[BQ.1 hb];exact e1.1
 ·intro j t c1 e1
  rcases hg j t c1 e1 with ⟨rfl,rfl,rfl⟩|⟨h1,h2⟩
  ·exact ZM
  ·refine (RT (λ he => ?_)).trans (h.sat.g8 _ _ _ h2)
   exact h1 (h.sat.inj _ _ _ _ _ _ h2 e0 he).1
 ·intro j t c1 e1
  obtain ⟨c2,e2⟩:=td _ _ _ e1;show (σ j t).2<((st.own.put (σ k 0).1 ((st.own (σ k 0).1).v7 (σ k 0).2 (some (c'.g8 σ k)))) (σ j t).1).j6;rw[V2];exact h.sat.old _ _ _ e2
 ·intro j t j' t' c1 c2 e1 e2 hj
  obtain ⟨_,Ag⟩:=td _ _ _ e1;obtain ⟨_,yf⟩:=td _ _ _ e2;exact h.sat.inj _ _ _ _ _ _ Ag yf hj
 ·intro j t c1 e1 hw
  rcases hg j t c1 e1 with ⟨rfl,rfl,rfl⟩|⟨_,h2⟩
  ·exact h.sat.low _ _ _ e0 (hir hw)
  ·exact h.sat.low _ _ _ h2 hw
theorem Y0 {k t:Nat} {c:BC} (h:c5 M k (t+1)=some c):c.mf=true:=by
 obtain ⟨_,_,_,_,g3⟩:=GQ h;obtain ⟨_,_,_,_,_,rfl⟩:=g3 t rfl;rfl
theorem LX {k j t:Nat} {c:BC} (h:c5 (w3 k M) j t=some c):j≠k/\c5 M j t=some c:=by
 obtain ⟨s,c0,g1,_⟩:=GQ h;obtain ⟨h1,h2⟩:=OC g1;refine ⟨h1,?_⟩;unfold c5 at h ⊢;rw[g1]at h;rw[h2];exact h
theorem RX.kill (h:RX σ tm M st) {k s:Nat} {c:BC} (e:c8 M k=some (s,c)) :
  RX σ tm (w3 k M) ⟨st.tm,st.own.put s ((st.own s).v7 (σ k 0).2 none)⟩:=by
 have hs:=h.sat.site _ _ _ e;subst hs;have e0:=EE e;refine ⟨h.tm,⟨?_,?_,?_,?_,?_⟩⟩
 ·intro j s' c1 e1
  exact h.sat.site _ _ _ (OC e1).2
 ·intro j t c1 e1
  obtain ⟨hj,e1⟩:=LX e1;refine (RT (λ he => ?_)).trans (h.sat.g8 _ _ _ e1);exact hj (h.sat.inj _ _ _ _ _ _ e1 e0 he).1
 ·intro j t c1 e1
  obtain ⟨hj,e1⟩:=LX e1;show (σ j t).2<((st.own.put (σ k 0).1 ((st.own (σ k 0).1).v7 (σ k 0).2 none)) (σ j t).1).j6;rw[V2];exact h.sat.old _ _ _ e1
 ·intro j t j' t' c1 c2 e1 e2 hj
  exact h.sat.inj _ _ _ _ _ _ (LX e1).2 (LX e2).2 hj
 ·intro j t c1 e1 hw
  exact h.sat.low _ _ _ (LX e1).2 hw
theorem RX.Oc (h:RX σ tm M st) {k s i z:Nat} {rows:List (Option (Nat × List (List AV)))} {es es':List (List AV)} (e:c8 M k=some (s,.mx rows)) (hr:rows[i]? = some (some (z,es))) (hl:es'.length=es.length) :
  RX σ tm ((k,s,.mx (rows.set i (some (z,es'))))::M) ⟨st.tm,st.own.put (σ k (i+1)).1 ((st.own (σ k (i+1)).1).v7 (σ k (i+1)).2 (some ⟨z,es'⟩))⟩:=by
 have e1:c5 M k (i+1)=some (.rw z es):=by simp [c5,e,hr]
 have hi:i<rows.length:=(zS hr).1;have kr:B5 σ k 0 (rows.set i (some (z,es')))=B5 σ k 0 rows:=by
  apply List.ext_getElem?;intro j;rw[E9,E9];by_cases hj:i=j
  ·subst hj;rw[List.getElem?_set_self hi,hr];simp [hl]
  ·rw[List.getElem?_set_ne hj]
 have hg : ∀ j t c1,c5 ((k,s,.mx (rows.set i (some (z,es'))))::M) j t=some c1->(j=k/\t=i+1/\c1 = .rw z es')\/(¬ (j=k/\t=i+1) /\ ∃ c2,c5 M j t=some c2/\c2.g8 σ j=c1.g8 σ j):=by
  intro j t c1 g;by_cases hj:j=k
  ·subst hj
   cases t with
   | zero =>
    rw[P0]at g;obtain rfl:=Option.some.inj g;exact Or.inr ⟨by omega,_,EE e,by simp only[BC.g8,kr]⟩
   | succ t =>
    simp only[c5,c8,Nat.beq_refl,cond_true]at g;by_cases mb:i=t
    ·subst mb
     rw[List.getElem?_set_self hi]at g;exact Or.inl ⟨rfl,rfl,(Option.some.inj g).symm⟩
    ·rw[List.getElem?_set_ne mb]at g
     refine Or.inr ⟨by omega,c1,?_,rfl⟩;simp only[c5,e];exact g
  ·rw[KR hj]at g
   exact Or.inr ⟨by omega,c1,g,rfl⟩
 have td : ∀ j t c1,c5 ((k,s,.mx (rows.set i (some (z,es'))))::M) j t=some c1 -> ∃ c2,c5 M j t=some c2:=by
  intro j t c1 g;rcases hg j t c1 g with ⟨rfl,rfl,rfl⟩|⟨_,c2,h2,_⟩
  ·exact ⟨_,e1⟩
  ·exact ⟨c2,h2⟩
 refine ⟨h.tm,⟨?_,?_,?_,?_,?_⟩⟩
 ·intro j s' c1 g
  simp only[c8]at g;cases hb:Nat.beq j k<;>simp only[hb,cond_true,cond_false]at g
  ·exact h.sat.site _ _ _ g
  ·simp only[Option.some.injEq,Prod.mk.injEq]at g
   rw[BQ.1 hb,<-g.1];exact h.sat.site _ _ _ e
 ·intro j t c1 g
  rcases hg j t c1 g with ⟨rfl,rfl,rfl⟩|⟨h1,c2,h2,h3⟩
  ·exact ZM
  ·rw[<-h3]
   refine (RT (λ he => ?_)).trans (h.sat.g8 _ _ _ h2);exact h1 (h.sat.inj _ _ _ _ _ _ h2 e1 he)
 ·intro j t c1 g
  obtain ⟨c2,e2⟩:=td _ _ _ g;show (σ j t).2<((st.own.put (σ k (i+1)).1 ((st.own (σ k (i+1)).1).v7 (σ k (i+1)).2 (some ⟨z,es'⟩))) (σ j t).1).j6;rw[V2];exact h.sat.old _ _ _ e2
 ·intro j t j' t' c1 c2 g1 g2 hj
  obtain ⟨_,Ag⟩:=td _ _ _ g1;obtain ⟨_,yf⟩:=td _ _ _ g2;exact h.sat.inj _ _ _ _ _ _ Ag yf hj
 ·intro j t c1 g hw
  obtain ⟨c2,e2⟩:=td _ _ _ g;cases t with
  | zero =>
   by_cases hj:j=k
   ·subst hj;exact h.sat.low _ _ _ (EE e) rfl
   ·rw[KR hj]at g;exact h.sat.low _ _ _ g hw
  | succ t=>exact h.sat.low _ _ _ e2 (Y0 e2)
section
variable {k:Nat} {f:Nat->Nat × Nat}
theorem iC {v:AV} (hf:f 0=σ k 0) (h:OS k v=false):BA (C5 σ k f) v=BA σ v:=by
 cases v with
 | row j t z o n =>
  simp only[OS]at h;cases hb:Nat.beq j k
  ·simp only[BA,CH f (FD.1 hb)]
  ·obtain rfl:=BQ.1 hb
   simp only[hb,cond_true]at h;cases t with
   | zero=>simp only[BA,BS,hf]
   | succ t=>cases h
 | ptr j t a b =>
  simp only[OS]at h;cases hb:Nat.beq j k
  ·simp only[BA,CH f (FD.1 hb)]
  ·obtain rfl:=BQ.1 hb
   simp only[hb,cond_true]at h;cases t with
   | zero=>simp only[BA,BS,hf]
   | succ t=>cases h
 | _=>rfl
theorem WE (hf:f 0=σ k 0) : ∀ {cs:List AV},N4 k cs=false->cs.map (BA (C5 σ k f))=cs.map (BA σ)
 | [],_=>rfl
 | c::r,h=>by
  simp only[N4]at h;cases h1:OS k c<;>simp only[h1,cond_true,cond_false]at h
  ·rw[List.map_cons,List.map_cons,iC hf h1,WE hf h]
  ·cases h
theorem vB (hf:f 0=σ k 0) : ∀ {es:List (List AV)},SV k es=false->(es.map λ cs=>cs.map (BA (C5 σ k f)))=es.map λ cs=>cs.map (BA σ)
 | [],_=>rfl
 | c::r,h=>by
  simp only[SV]at h;cases h1:N4 k c<;>simp only[h1,cond_true,cond_false]at h
  ·rw[List.map_cons,List.map_cons,WE hf h1,vB hf h]
  ·cases h
theorem WG {v:AV} (hf:f 0=σ k 0) (h:Q1 k v=false):BM (C5 σ k f) v=BM σ v:=by
 cases v with
 | agg cs=>simp only[Q1]at h;simp only[BM,WE hf h]
 | fn p f g cs=>simp only[Q1]at h;simp only[BM,WE hf h]
 | row a b c d e=>exact iC (v := .row a b c d e) hf h
 | ptr a b c d=>exact iC (v := .ptr a b c d) hf h
 | _=>rfl
theorem vC (hf:f 0=σ k 0) : ∀ {cs:List AV},SU k cs=false->cs.map (BM (C5 σ k f))=cs.map (BM σ)
 | [],_=>rfl
 | c::r,h=>by
  simp only[SU]at h;cases h1:Q1 k c<;>simp only[h1,cond_true,cond_false]at h
  ·rw[List.map_cons,List.map_cons,WG hf h1,vC hf h]
  ·cases h
theorem vF {v:AV} (hf:f 0=σ k 0) (h:PL k v=false):BJ (C5 σ k f) v=BJ σ v:=by
 cases v with
 | g9 cs=>simp only[PL]at h;simp only[BJ,vC hf h]
 | agg cs=>exact WG (v := .agg cs) hf h
 | fn p f g cs=>exact WG (v := .fn p f g cs) hf h
 | row a b c d e=>exact WG (v := .row a b c d e) hf h
 | ptr a b c d=>exact WG (v := .ptr a b c d) hf h
 | _=>rfl
theorem bS : ∀ {tm:Tm},JJ k tm=false -> ∀ j,PL k (tg tm j)=false
 | [],_,_=>rfl
 | (i,v)::r,h,j=>by
  simp only[JJ]at h;cases h1:PL k v<;>simp only[h1,cond_true,cond_false]at h
  ·simp only[tg]
   cases Nat.beq j i
   ·exact bS h j
   ·exact h1
  ·cases h
theorem bR : ∀ {M:Mem},H1 k M=false -> ∀ j s c,c8 M j=some (s,c)->N3 k c=false
 | [],_,_,_,_,e=>by cases e
 | (i,s0,c0)::r,h,j,s,c,e=>by
  simp only[H1]at h;cases h1:N3 k c0<;>simp only[h1,cond_true,cond_false]at h
  ·simp only[c8]at e
   cases h2:Nat.beq j i<;>simp only[h2,cond_true,cond_false]at e
   ·exact bR h j s c e
   ·simp only[Option.some.injEq,Prod.mk.injEq]at e
    obtain ⟨_,rfl⟩:=e;exact h1
  ·cases h
theorem kP {c:BC} {j:Nat} (hf:f 0=σ k 0) (h:N3 k c=false) (hj:j≠k):c.g8 (C5 σ k f) j=c.g8 σ j:=by
 cases c with
 | bx cs=>simp only[N3]at h;simp only[BC.g8,WE hf h]
 | rw z es=>rfl
 | bs z es=>simp only[N3]at h;simp only[BC.g8,vB hf h]
 | mx rows=>simp only[BC.g8];rw[P1 rows 0 λ i _=>by rw[CH f hj]]
 | hx a v rows=>simp only[BC.g8];rw[P1 rows 0 λ i _=>by rw[CH f hj]]
 | vw w rows=>simp only[BC.g8];rw[P1 rows 0 λ i _=>by rw[CH f hj]]
end
theorem RX.Dl (h:RX σ tm M st) {k k2 s s2 i z:Nat} {rows:List (Option (Nat × List (List AV)))} {es:List (List AV)} {c0:BC} (e:c8 M k=some (s,c0)) (gi:c0 = .mx rows \/ ∃ v,c0 = .hx i v rows) (e2:c8 M k2=some (s2,.rw z es)) (hk:k≠k2) (dk:JJ k tm=false) (oc:H1 k M=false) (hi:i<rows.length) :
  RX (C5 σ k λ t=>if t=i+1 then σ k2 0 else σ k t) tm ((k,s,.mx (rows.set i (some (z,es))))::w3 k2 M) ⟨st.tm,st.own.put s ((st.own s).v7 (σ k 0).2 (some ⟨1,(B5 σ k 0 rows).set i [.row (σ k2 0).1 (σ k2 0).2 z 0 es.length]⟩))⟩:=by
 have hs:=h.sat.site _ _ _ e;subst hs;have r0:=EE e;have r2:=EE e2;have f0:(λ t=>if t=i+1 then σ k2 0 else σ k t) 0=σ k 0:=by simp
 have kr:B5 (C5 σ k λ t=>if t=i+1 then σ k2 0 else σ k t) k 0 (rows.set i (some (z,es)))=(B5 σ k 0 rows).set i [.row (σ k2 0).1 (σ k2 0).2 z 0 es.length]:=by
  apply List.ext_getElem?;intro j;rw[E9,BS];by_cases hj:i=j
  ·subst hj
   rw[List.getElem?_set_self hi,List.getElem?_set_self (by rw[FA];exact hi)];simp
  ·rw[List.getElem?_set_ne hj,List.getElem?_set_ne hj,E9]
   congr 1;funext r
   cases r with
   | none=>rfl
   | some x=>simp only[Nat.zero_add];rw[if_neg (by omega)]
 have hg : ∀ j t c,c5 ((k,(σ k 0).1,.mx (rows.set i (some (z,es))))::w3 k2 M) j t=some c ->
   (j=k/\t=0/\c = .mx (rows.set i (some (z,es))))\/(j=k/\t=i+1/\c = .rw z es)\/(j=k/\t≠0/\t≠i+1/\c5 M k t=some c)\/(j≠k/\j≠k2/\c5 M j t=some c):=by
  intro j t c g;by_cases hj:j=k
  ·subst hj
   cases t with
   | zero=>rw[P0]at g;exact Or.inl ⟨rfl,rfl,(Option.some.inj g).symm⟩
   | succ t =>
    simp only[c5,c8,Nat.beq_refl,cond_true]at g;by_cases mb:i=t
    ·subst mb
     rw[List.getElem?_set_self hi]at g;exact Or.inr (Or.inl ⟨rfl,rfl,(Option.some.inj g).symm⟩)
    ·rw[List.getElem?_set_ne mb]at g
     refine Or.inr (Or.inr (Or.inl ⟨rfl,by omega,by omega,?_⟩));rcases gi with rfl|⟨v,rfl⟩
     ·simp only[c5,e]
      exact g
     ·simp only[c5,e]
      exact g
  ·rw[KR hj]at g
   obtain ⟨g1,g2⟩:=LX g;exact Or.inr (Or.inr (Or.inr ⟨hj,g1,g2⟩))
 have Kw : ∀ j t c,c5 M j t=some c->N3 k c=false:=by
  intro j t c g;obtain ⟨s1,c0,g1,g2,g3⟩:=GQ g;cases t with
  | zero=>rw[g2 rfl];exact bR oc _ _ _ g1
  | succ t=>obtain ⟨_,_,_,_,_,rfl⟩:=g3 t rfl;rfl
 refine ⟨λ j => ?_,⟨?_,?_,?_,?_,?_⟩⟩
 ·rw[vF (f:=λ t=>if t=i+1 then σ k2 0 else σ k t) f0 (bS dk j)];exact h.tm j
 ·intro j s' c g
  simp only[c8]at g;cases hb:Nat.beq j k<;>simp only[hb,cond_true,cond_false]at g
  ·rw[CH _ (FD.1 hb)];exact h.sat.site _ _ _ (OC g).2
  ·simp only[Option.some.injEq,Prod.mk.injEq]at g
   rw[BQ.1 hb,BS,<-g.1];simp
 ·intro j t c g
  rcases hg j t c g with ⟨rfl,rfl,rfl⟩|⟨rfl,rfl,rfl⟩|⟨rfl,h0,h1,g2⟩|⟨h0,h1,g2⟩
  ·rw[BS]
   simp only[BC.g8,kr];exact ZM
  ·rw[BS]
   simp only[if_true];exact (RT (λ he=>hk (h.sat.inj _ _ _ _ _ _ r2 r0 he).1.symm)).trans (h.sat.g8 _ _ _ r2)
  ·rw[BS]
   simp only[h1,if_false];have hb:c.g8 (C5 σ j λ t=>if t=i+1 then σ k2 0 else σ j t) j=c.g8 σ j:=by
    obtain ⟨_,_,_,_,g3⟩:=GQ g2;obtain ⟨t',rfl⟩ : ∃ t',t=t'+1:=⟨t-1,by omega⟩;obtain ⟨_,_,_,_,_,rfl⟩:=g3 t' rfl;rfl
   rw[hb];exact (RT (λ he=>h0 (h.sat.inj _ _ _ _ _ _ g2 r0 he).2)).trans (h.sat.g8 _ _ _ g2)
  ·rw[CH _ h0,kP (f:=λ t=>if t=i+1 then σ k2 0 else σ k t) f0 (Kw _ _ _ g2) h0]
   exact (RT (λ he=>h0 (h.sat.inj _ _ _ _ _ _ g2 r0 he).1)).trans (h.sat.g8 _ _ _ g2)
 ·intro j t c g
  rw[V2];rcases hg j t c g with ⟨rfl,rfl,rfl⟩|⟨rfl,rfl,rfl⟩|⟨rfl,h0,h1,g2⟩|⟨h0,h1,g2⟩
  ·rw[BS];simpa using h.sat.old _ _ _ r0
  ·rw[BS];simpa using h.sat.old _ _ _ r2
  ·rw[BS];simp only[h1,if_false];exact h.sat.old _ _ _ g2
  ·rw[CH _ h0];exact h.sat.old _ _ _ g2
 ·-- each name is that of Ej in the old memory
  have hold : ∀ j t c,c5 ((k,(σ k 0).1,.mx (rows.set i (some (z,es))))::w3 k2 M) j t=some c -> ∃ j0 t0 c0,c5 M j0 t0=some c0/\(C5 σ k λ t=>if t=i+1 then σ k2 0 else σ k t) j t=σ j0 t0/\((j0=k2/\t0=0/\j=k/\t=i+1)\/(j0=j/\t0=t/\j≠k2)):=by
   intro j t c g;rcases hg j t c g with ⟨rfl,rfl,rfl⟩|⟨rfl,rfl,rfl⟩|⟨rfl,h0,h1,g2⟩|⟨h0,h1,g2⟩
   ·exact ⟨_,_,_,r0,by rw[BS];simp,Or.inr ⟨rfl,rfl,hk⟩⟩
   ·exact ⟨_,_,_,r2,by rw[BS];simp,Or.inl ⟨rfl,rfl,rfl,rfl⟩⟩
   ·exact ⟨_,_,_,g2,by rw[BS];simp [h1],Or.inr ⟨rfl,rfl,hk⟩⟩
   ·exact ⟨_,_,_,g2,by rw[CH _ h0],Or.inr ⟨rfl,rfl,h1⟩⟩
  intro j t j' t' c c' g g' hj;obtain ⟨j0,t0,c0,a1,a2,a3⟩:=hold j t c g;obtain ⟨j1,t1,c1,b1,b2,b3⟩:=hold j' t' c' g';rw[a2,b2]at hj;obtain ⟨q1,q2⟩:=h.sat.inj _ _ _ _ _ _ a1 b1 hj;rcases a3 with ⟨x1,x2,x3,x4⟩|⟨x1,x2,x3⟩<;>rcases b3 with ⟨y1,y2,y3,y4⟩|⟨y1,y2,y3⟩
  ·exact ⟨x3.trans y3.symm,x4.trans y4.symm⟩
  ·exact absurd (y1.symm.trans (q1.symm.trans x1)) y3
  ·exact absurd (x1.symm.trans (q1.trans y1)) x3
  ·exact ⟨x1.symm.trans (q1.trans y1),x2.symm.trans (q2.trans y2)⟩
 ·intro j t c g hw
  rcases hg j t c g with ⟨rfl,rfl,rfl⟩|⟨rfl,rfl,rfl⟩|⟨rfl,h0,h1,g2⟩|⟨h0,h1,g2⟩
  ·rw[BS];simpa using h.sat.low _ _ _ r0 (by rcases gi with rfl|⟨v,rfl⟩<;>rfl)
  ·rw[BS];simpa using h.sat.low _ _ _ r2 rfl
  ·rw[BS];simp only[h1,if_false];exact h.sat.low _ _ _ g2 hw
  ·rw[CH _ h0];exact h.sat.low _ _ _ g2 hw
theorem RH {own:AH} {q t:Nat} {b:D7} {p:Nat × Nat} (h:p≠(q,t)) (ho:p.2<(own p.1).j6):((own.put q (((own q).v7 t none).new b)) p.1).g8 p.2=(own p.1).g8 p.2:=by
 by_cases hs:p.1=q
 ·rw[hs]at ho ⊢
  rw[AH.k8];simp only[CB.new,CB.v7];have h1 : ¬ p.2=(own q).j6:=by omega
  have h2 : ¬ p.2=t:=λ e=>h (Prod.ext hs e)
  simp only[h1,h2,if_false]
 ·rw[AH.iu _ _ _ _ hs]
theorem RI {own:AH} {q t:Nat} {b:D7} (s:Nat):(own s).j6<=((own.put q (((own q).v7 t none).new b)) s).j6:=by
 by_cases hs:s=q
 ·subst hs;rw[AH.k8];simp only[CB.new,CB.v7];omega
 ·rw[AH.iu _ _ _ _ hs];exact Nat.le_refl _
theorem RX.Jp (h:RX σ tm M st) {s key sk i z:Nat} {rows:List (Option (Nat × List (List AV)))} {es es':List (List AV)} (e:c8 M key=some (sk,.mx rows)) (hr:rows[i]? = some (some (z,es))) (hm:GU s M=false) (ht:HT s tm=false) :
  RX (C5 σ s λ_=>((σ key (i+1)).1,st.own.j6 (σ key (i+1)).1)) tm ((s,(σ key (i+1)).1,.rw z es')::(key,sk,.hx i (.row (σ key (i+1)).1 (σ key (i+1)).2 z 0 es.length) (rows.set i none))::w3 key M)
   ⟨st.tm,st.own.put (σ key (i+1)).1 (((st.own (σ key (i+1)).1).v7 (σ key (i+1)).2 none).new ⟨z,es'⟩)⟩:=by
 have r0:=EE e;have e1:c5 M key (i+1)=some (.rw z es):=by simp [c5,e,hr]
 have hi:i<rows.length:=(zS hr).1;have Cu:key≠s:=(RY hm _ _ _ e).1;have kr:(B5 (C5 σ s λ_=>((σ key (i+1)).1,st.own.j6 (σ key (i+1)).1)) key 0 (rows.set i none)).set i [.row (σ key (i+1)).1 (σ key (i+1)).2 z 0 es.length]=B5 σ key 0 rows:=by
  apply List.ext_getElem?;intro j;by_cases hj:i=j
  ·subst hj
   rw[List.getElem?_set_self (by rw[FA,List.length_set];exact hi),E9,hr];simp
  ·rw[List.getElem?_set_ne hj,E9,E9,List.getElem?_set_ne hj,CH _ Cu]
 have Db : ∀ j t c',c5 M j t=some c'->HS s c'=false/\j≠s:=by
  intro j t c' g;obtain ⟨s1,c0,g1,g2,g3⟩:=GQ g;obtain ⟨g4,g5⟩:=RY hm _ _ _ g1;refine ⟨?_,g4⟩;cases t with
  | zero=>rw[g2 rfl];exact g5
  | succ i=>obtain ⟨rows,z,es,_,_,rfl⟩:=g3 i rfl;rfl
 have hg : ∀ j t c,c5 ((s,(σ key (i+1)).1,.rw z es')::(key,sk,.hx i (.row (σ key (i+1)).1 (σ key (i+1)).2 z 0 es.length) (rows.set i none))::w3 key M) j t=some c ->
   (j=s/\t=0/\c = .rw z es')\/(j=key/\t=0/\c = .hx i (.row (σ key (i+1)).1 (σ key (i+1)).2 z 0 es.length) (rows.set i none))\/(j≠s /\ ¬ (j=key/\t=0) /\ ¬ (j=key/\t=i+1)/\(j=key -> ∃ z es,c = .rw z es)/\c5 M j t=some c):=by
  intro j t c g;by_cases hj:j=s
  ·subst hj
   obtain ⟨rfl,rfl⟩:=TJ (c := .rw z es') trivial g;exact Or.inl ⟨rfl,rfl,rfl⟩
  ·rw[KR hj]at g
   by_cases hk:j=key
   ·subst hk
    cases t with
    | zero=>rw[P0]at g;exact Or.inr (Or.inl ⟨rfl,rfl,(Option.some.inj g).symm⟩)
    | succ t =>
     simp only[c5,c8,Nat.beq_refl,cond_true]at g;by_cases mb:i=t
     ·subst mb
      rw[List.getElem?_set_self hi]at g;cases g
     ·rw[List.getElem?_set_ne mb]at g
      refine Or.inr (Or.inr ⟨hj,by omega,by omega,λ_ => ?_,?_⟩)
      ·split at g
       ·exact ⟨_,_,(Option.some.inj g).symm⟩
       ·cases g
      ·simp only[c5,e]
       exact g
   ·rw[KR hk]at g
    obtain ⟨g1,g2⟩:=LX g;exact Or.inr (Or.inr ⟨hj,by omega,by omega,λ h=>absurd h hk,g2⟩)
 refine ⟨λ j => ?_,⟨?_,?_,?_,?_,?_⟩⟩
 ·rw[Z6 (TT ht j)];exact h.tm j
 ·intro j s1 c g
  simp only[c8]at g;cases hb:Nat.beq j s<;>simp only[hb,cond_true,cond_false]at g
  ·rw[CH _ (FD.1 hb)]
   cases w9:Nat.beq j key<;>simp only[w9,cond_true,cond_false]at g
   ·exact h.sat.site _ _ _ (OC g).2
   ·simp only[Option.some.injEq,Prod.mk.injEq]at g
    rw[BQ.1 w9,<-g.1];exact h.sat.site _ _ _ e
  ·simp only[Option.some.injEq,Prod.mk.injEq]at g
   rw[BQ.1 hb,BS,<-g.1]
 ·intro j t c g
  rcases hg j t c g with ⟨rfl,rfl,rfl⟩|⟨rfl,rfl,rfl⟩|⟨h0,h1,h2,h3,g2⟩
  ·rw[BS]
   simp [AH.k8,CB.new,AH.j6,CB.v7,BC.g8]
  ·rw[CH _ Cu]
   simp only[BC.g8,kr];exact (RH (λ he=>absurd (h.sat.inj _ _ _ _ _ _ r0 e1 he).2 (by omega)) (h.sat.old _ _ _ r0)).trans (h.sat.g8 _ _ _ r0)
  ·rw[CH _ h0,XJ (Db _ _ _ g2).1 h0]
   exact (RH (λ he=>h2 (h.sat.inj _ _ _ _ _ _ g2 e1 he)) (h.sat.old _ _ _ g2)).trans (h.sat.g8 _ _ _ g2)
 ·intro j t c g
  rcases hg j t c g with ⟨rfl,rfl,rfl⟩|⟨rfl,rfl,rfl⟩|⟨h0,h1,h2,h3,g2⟩
  ·rw[BS]
   simp [AH.k8,CB.new,AH.j6,CB.v7]
  ·rw[CH _ Cu]
   exact Nat.lt_of_lt_of_le (h.sat.old _ _ _ r0) (RI _)
  ·rw[CH _ h0]
   exact Nat.lt_of_lt_of_le (h.sat.old _ _ _ g2) (RI _)
 ·have hold : ∀ j t c,c5 ((s,(σ key (i+1)).1,.rw z es')::(key,sk,.hx i (.row (σ key (i+1)).1 (σ key (i+1)).2 z 0 es.length) (rows.set i none))::w3 key M) j t=some c->(j=s/\t=0)\/(j≠s /\ ∃ c0,c5 M j t=some c0):=by
   intro j t c g;rcases hg j t c g with ⟨rfl,rfl,rfl⟩|⟨rfl,rfl,rfl⟩|⟨h0,h1,h2,h3,g2⟩
   ·exact Or.inl ⟨rfl,rfl⟩
   ·exact Or.inr ⟨Cu,_,r0⟩
   ·exact Or.inr ⟨h0,_,g2⟩
  have om : ∀ j0 t0 c0,c5 M j0 t0=some c0->((σ key (i+1)).1,st.own.j6 (σ key (i+1)).1)≠σ j0 t0:=by
   intro j0 t0 c0 g he;have:=h.sat.old _ _ _ g
   rw[<-he]at this;exact absurd this (Nat.lt_irrefl _)
  intro j t j' t' c c' g g' hj;rcases hold j t c g with ⟨rfl,rfl⟩|⟨a1,c1,a2⟩<;>rcases hold j' t' c' g' with ⟨rfl,rfl⟩|⟨b1,c2,b2⟩
  ·exact ⟨rfl,rfl⟩
  ·rw[BS,CH _ b1]at hj;exact absurd hj (om _ _ _ b2)
  ·rw[BS,CH _ a1]at hj;exact absurd hj.symm (om _ _ _ a2)
  ·rw[CH _ a1,CH _ b1]at hj
   exact h.sat.inj _ _ _ _ _ _ a2 b2 hj
 ·intro j t c g hw
  rcases hg j t c g with ⟨rfl,rfl,rfl⟩|⟨rfl,rfl,rfl⟩|⟨h0,h1,h2,h3,g2⟩
  ·rw[BS];exact h.sat.low _ _ _ e1 rfl
  ·rw[CH _ Cu];exact h.sat.low _ _ _ r0 rfl
  ·rw[CH _ h0];exact h.sat.low _ _ _ g2 hw
theorem RX.view (h:RX σ tm M st) {k s:Nat} {c0:BC} {rows:List (Option (Nat × List (List AV)))} {w:List Nat} (e:c8 M k=some (s,c0)) (gi:c0 = .mx rows \/ ∃ w0,c0 = .vw w0 rows) :
  RX σ tm ((k,s,.vw w rows)::M) ⟨st.tm,st.own.put s ((st.own s).v7 (σ k 0).2 (some (BC.g8 σ k (.vw w rows))))⟩:=by
 have hs:=h.sat.site _ _ _ e;subst hs;have r0:=EE e;have hg : ∀ j t c,c5 ((k,(σ k 0).1,.vw w rows)::M) j t=some c->(j=k/\t=0/\c = .vw w rows)\/(¬ (j=k/\t=0)/\c5 M j t=some c):=by
  intro j t c g;by_cases hj:j=k
  ·subst hj
   cases t with
   | zero=>rw[P0]at g;exact Or.inl ⟨rfl,rfl,(Option.some.inj g).symm⟩
   | succ t =>
    refine Or.inr ⟨by omega,?_⟩;simp only[c5,c8,Nat.beq_refl,cond_true]at g;rcases gi with rfl|⟨w0,rfl⟩
    ·simp only[c5,e]
     exact g
    ·simp only[c5,e]
     exact g
  ·rw[KR hj]at g
   exact Or.inr ⟨by omega,g⟩
 have td : ∀ j t c1,c5 ((k,(σ k 0).1,.vw w rows)::M) j t=some c1 -> ∃ c2,c5 M j t=some c2:=by
  intro j t c1 g;rcases hg j t c1 g with ⟨rfl,rfl,rfl⟩|⟨_,h2⟩
  ·exact ⟨_,r0⟩
  ·exact ⟨_,h2⟩
 refine ⟨h.tm,⟨?_,?_,?_,?_,?_⟩⟩
 ·intro j s' c1 g
  simp only[c8]at g;cases hb:Nat.beq j k<;>simp only[hb,cond_true,cond_false]at g
  ·exact h.sat.site _ _ _ g
  ·simp only[Option.some.injEq,Prod.mk.injEq]at g
   rw[BQ.1 hb];exact g.1
 ·intro j t c1 g
  rcases hg j t c1 g with ⟨rfl,rfl,rfl⟩|⟨h1,h2⟩
  ·exact ZM
  ·refine (RT (λ he => ?_)).trans (h.sat.g8 _ _ _ h2)
   exact h1 (h.sat.inj _ _ _ _ _ _ h2 r0 he)
 ·intro j t c1 g
  obtain ⟨c2,e2⟩:=td _ _ _ g;show (σ j t).2<((st.own.put (σ k 0).1 ((st.own (σ k 0).1).v7 (σ k 0).2 _)) (σ j t).1).j6;rw[V2];exact h.sat.old _ _ _ e2
 ·intro j t j' t' c1 c2 g1 g2 hj
  obtain ⟨_,Ag⟩:=td _ _ _ g1;obtain ⟨_,yf⟩:=td _ _ _ g2;exact h.sat.inj _ _ _ _ _ _ Ag yf hj
 ·intro j t c1 g hw
  rcases hg j t c1 g with ⟨rfl,rfl,rfl⟩|⟨_,h2⟩
  ·exact h.sat.low _ _ _ r0 (by rcases gi with rfl|⟨w0,rfl⟩<;>rfl)
  ·exact h.sat.low _ _ _ h2 hw
theorem RX.Dn (h:RX σ tm M st) {k s:Nat} {rows w8:List (Option (Nat × List (List AV)))} {w:List Nat} (e:c8 M k=some (s,.vw w rows)) (hl:w8.length=w.length)
  (hw : ∀ (i t:Nat),w[i]? = some t -> ∃ r,rows[t]? = some r/\w8[i]? = some r) (hi : ∀ (i i' t:Nat),w[i]? = some t->w[i']? = some t->i=i') (dk:JJ k tm=false) (oc:H1 k M=false) :
  ∃ σ',RX σ' tm ((k,s,.mx w8)::M) st:=by
 have hs:=h.sat.site _ _ _ e;subst hs;have r0:=EE e;obtain ⟨f,hf⟩ : ∃ f:Nat->Nat × Nat,f=λ t=>match t with|0=>σ k 0|i+1=>match w[i]? with|some v=>σ k (v+1)|none=>σ k (i+1):=⟨_,rfl⟩
 have f0:f 0=σ k 0:=by rw[hf]
 have f1 : ∀ i v,w[i]? = some v->f (i+1)=σ k (v+1):=λ i v hv=>by rw[hf];simp only[hv]
 have Kw : ∀ j t c,c5 M j t=some c->N3 k c=false:=by
  intro j t c g;obtain ⟨s1,c0,g1,g2,g3⟩:=GQ g;cases t with
  | zero=>rw[g2 rfl];exact bR oc _ _ _ g1
  | succ t=>obtain ⟨_,_,_,_,_,rfl⟩:=g3 t rfl;rfl
 have zt : ∀ i,i<w8.length -> ∃ v r,w[i]? = some v/\rows[v]? = some r/\w8[i]? = some r:=λ i hi=>by
  obtain ⟨v,hv⟩ : ∃ v,w[i]? = some v:=⟨_,zE (by omega)⟩;obtain ⟨r,h1,h2⟩:=hw i v hv;exact ⟨v,r,hv,h1,h2⟩
 have kr:B5 (C5 σ k f) k 0 w8=w.map λ t=>((B5 σ k 0 rows)[t]?).getD []:=by
  apply List.ext_getElem?;intro i;rw[E9,BS,List.getElem?_map];by_cases au:i<w8.length
  ·obtain ⟨v,r,h1,h2,h3⟩:=zt i au
   rw[h3,h1,Option.map_some,Option.map_some,E9,h2,Option.map_some,Option.getD_some,Nat.zero_add,Nat.zero_add,f1 i v h1]
  ·rw[List.getElem?_eq_none (by omega),List.getElem?_eq_none (by omega)];rfl
 have hg : ∀ j t c,c5 ((k,(σ k 0).1,.mx w8)::M) j t=some c ->
   (j=k/\t=0/\c = .mx w8)\/(∃ i v,j=k/\t=i+1/\w[i]? = some v/\c5 M k (v+1)=some c)\/(j≠k/\c5 M j t=some c):=by
  intro j t c g;by_cases hj:j=k
  ·subst hj
   cases t with
   | zero=>rw[P0]at g;exact Or.inl ⟨rfl,rfl,(Option.some.inj g).symm⟩
   | succ t =>
    simp only[c5,c8,Nat.beq_refl,cond_true]at g;by_cases ct:t<w8.length
    ·obtain ⟨v,r,h1,h2,h3⟩:=zt t ct
     refine Or.inr (Or.inl ⟨t,v,rfl,rfl,h1,?_⟩);rw[h3]at g;simp only[c5,e,h2];exact g
    ·rw[List.getElem?_eq_none (by omega)]at g;cases g
  ·rw[KR hj]at g
   exact Or.inr (Or.inr ⟨hj,g⟩)
 have Io : ∀ v c,c5 M k (v+1)=some c -> ∃ z es,c = .rw z es:=λ v c g=>by
  obtain ⟨_,_,_,_,g3⟩:=GQ g;obtain ⟨_,z,es,_,_,rfl⟩:=g3 v rfl;exact ⟨z,es,rfl⟩
 refine ⟨C5 σ k f,λ j => ?_,⟨?_,?_,?_,?_,?_⟩⟩
 ·rw[vF f0 (bS dk j)];exact h.tm j
 ·intro j s' c g
  simp only[c8]at g;cases hb:Nat.beq j k<;>simp only[hb,cond_true,cond_false]at g
  ·rw[CH _ (FD.1 hb)];exact h.sat.site _ _ _ g
  ·simp only[Option.some.injEq,Prod.mk.injEq]at g
   rw[BQ.1 hb,BS,<-g.1,f0]
 ·intro j t c g
  rcases hg j t c g with ⟨rfl,rfl,rfl⟩|⟨i,v,rfl,rfl,h1,g2⟩|⟨h0,g2⟩
  ·rw[BS,f0]
   have:=h.sat.g8 _ _ _ r0
   simp only[BC.g8,kr]at this ⊢;exact this
  ·rw[BS,f1 i v h1]
   obtain ⟨z,es,rfl⟩:=Io v c g2;exact h.sat.g8 _ _ _ g2
  ·rw[CH _ h0,kP f0 (Kw _ _ _ g2) h0]
   exact h.sat.g8 _ _ _ g2
 ·intro j t c g
  rcases hg j t c g with ⟨rfl,rfl,rfl⟩|⟨i,v,rfl,rfl,h1,g2⟩|⟨h0,g2⟩
  ·rw[BS,f0];exact h.sat.old _ _ _ r0
  ·rw[BS,f1 i v h1];exact h.sat.old _ _ _ g2
  ·rw[CH _ h0];exact h.sat.old _ _ _ g2
 ·have hold : ∀ j t c,c5 ((k,(σ k 0).1,.mx w8)::M) j t=some c -> ∃ j0 t0 c0,c5 M j0 t0=some c0/\(C5 σ k f) j t=σ j0 t0/\((j=k/\j0=k/\((t=0/\t0=0) \/ ∃ i v,t=i+1/\t0=v+1/\w[i]? = some v))\/(j≠k/\j0=j/\t0=t)):=by
   intro j t c g;rcases hg j t c g with ⟨rfl,rfl,rfl⟩|⟨i,v,rfl,rfl,h1,g2⟩|⟨h0,g2⟩
   ·exact ⟨_,_,_,r0,by rw[BS,f0],Or.inl ⟨rfl,rfl,Or.inl ⟨rfl,rfl⟩⟩⟩
   ·exact ⟨_,_,_,g2,by rw[BS,f1 i v h1],Or.inl ⟨rfl,rfl,Or.inr ⟨i,v,rfl,rfl,h1⟩⟩⟩
   ·exact ⟨_,_,_,g2,by rw[CH _ h0],Or.inr ⟨h0,rfl,rfl⟩⟩
  intro j t j' t' c c' g g' hj;obtain ⟨j0,t0,c0,a1,a2,a3⟩:=hold j t c g;obtain ⟨j1,t1,c1,b1,b2,b3⟩:=hold j' t' c' g';rw[a2,b2]at hj;obtain ⟨q1,q2⟩:=h.sat.inj _ _ _ _ _ _ a1 b1 hj;rcases a3 with ⟨x1,x2,x3⟩|⟨x1,x2,x3⟩<;>rcases b3 with ⟨y1,y2,y3⟩|⟨y1,y2,y3⟩
  ·refine ⟨x1.trans y1.symm,?_⟩
   rcases x3 with ⟨x4,x5⟩|⟨i,v,x4,x5,x6⟩<;>rcases y3 with ⟨y4,y5⟩|⟨i',v',y4,y5,y6⟩
   ·omega
   ·omega
   ·omega
   ·obtain rfl:v=v':=by omega
    have:=hi i i' v x6 y6
    omega
  ·exact absurd (y2.symm.trans (q1.symm.trans x2)) y1
  ·exact absurd (x2.symm.trans (q1.trans y2)) x1
  ·exact ⟨x2.symm.trans (q1.trans y2),x3.symm.trans (q2.trans y3)⟩
 ·intro j t c g hw
  rcases hg j t c g with ⟨rfl,rfl,rfl⟩|⟨i,v,rfl,rfl,h1,g2⟩|⟨h0,g2⟩
  ·rw[BS,f0];exact h.sat.low _ _ _ r0 rfl
  ·rw[BS,f1 i v h1];exact h.sat.low _ _ _ g2 (Y0 g2)
  ·rw[CH _ h0];exact h.sat.low _ _ _ g2 hw
theorem RX.Jr (h:RX σ tm M st) {s key s':Nat} {rows:List (Option (Nat × List (List AV)))} (e:c8 M key=some (s',.mx rows)) (hm:GU s M=false) (ht:HT s tm=false) :
  RX (C5 σ s λ t=>match t with|0=>(s',st.own.j6 s')|i+1=>σ key (i+1)) tm ((s,s',.mx (rows++[none]))::w3 key M)
   ⟨st.tm,st.own.put s' (((st.own s').v7 (σ key 0).2 none).new ⟨1,B5 σ key 0 rows++[[.nil]]⟩)⟩:=by
 have hs:=h.sat.site _ _ _ e;subst hs;have r0:=EE e;generalize hF:(λ t=>match t with|0=>((σ key 0).1,st.own.j6 (σ key 0).1)|i+1=>σ key (i+1):Nat->Nat × Nat)=F;have F0:F 0=((σ key 0).1,st.own.j6 (σ key 0).1):=by rw[<-hF]
 have F1 : ∀ i,F (i+1)=σ key (i+1):=by intro i;rw[<-hF]
 have kr:B5 (C5 σ s F) s 0 (rows++[none])=B5 σ key 0 rows++[[.nil]]:=by
  apply List.ext_getElem?;intro j;rw[E9,BS];rcases Nat.lt_trichotomy j rows.length with hj|hj|hj
  ·rw[List.getElem?_append_left hj,List.getElem?_append_left (by rw[FA];exact hj),E9]
   congr 1;funext r
   cases r with
   | none=>rfl
   | some x=>simp only[Nat.zero_add];rw[F1]
  ·subst hj
   rw[List.getElem?_append_right (Nat.le_refl _),List.getElem?_append_right (by rw[FA];exact Nat.le_refl _),FA];simp
  ·rw[List.getElem?_eq_none (by simp;omega),List.getElem?_eq_none (by simp [FA];omega)];rfl
 have Db : ∀ j t c',c5 M j t=some c'->HS s c'=false/\j≠s:=by
  intro j t c' g;obtain ⟨s1,c0,g1,g2,g3⟩:=GQ g;obtain ⟨g4,g5⟩:=RY hm _ _ _ g1;refine ⟨?_,g4⟩;cases t with
  | zero=>rw[g2 rfl];exact g5
  | succ i=>obtain ⟨rows,z,es,_,_,rfl⟩:=g3 i rfl;rfl
 have hg : ∀ j t c,c5 ((s,(σ key 0).1,.mx (rows++[none]))::w3 key M) j t=some c ->
   (j=s/\t=0/\c = .mx (rows++[none]))\/(j=s/\t≠0/\c5 M key t=some c)\/(j≠s/\j≠key/\c5 M j t=some c):=by
  intro j t c g;by_cases hj:j=s
  ·subst hj
   cases t with
   | zero=>rw[P0]at g;exact Or.inl ⟨rfl,rfl,(Option.some.inj g).symm⟩
   | succ t =>
    simp only[c5,c8,Nat.beq_refl,cond_true]at g;rcases Nat.lt_trichotomy t rows.length with pn|pn|pn
    ·rw[List.getElem?_append_left pn]at g
     refine Or.inr (Or.inl ⟨rfl,by omega,?_⟩);simp only[c5,e];exact g
    ·subst pn
     rw[List.getElem?_append_right (Nat.le_refl _),Nat.sub_self]at g;simp at g
    ·rw[List.getElem?_eq_none (by simp;omega)]at g;cases g
  ·rw[KR hj]at g
   obtain ⟨g1,g2⟩:=LX g;exact Or.inr (Or.inr ⟨hj,g1,g2⟩)
 refine ⟨λ j => ?_,⟨?_,?_,?_,?_,?_⟩⟩
 ·rw[Z6 (TT ht j)];exact h.tm j
 ·intro j s1 c g
  simp only[c8]at g;cases hb:Nat.beq j s<;>simp only[hb,cond_true,cond_false]at g
  ·rw[CH _ (FD.1 hb)];exact h.sat.site _ _ _ (OC g).2
  ·simp only[Option.some.injEq,Prod.mk.injEq]at g
   rw[BQ.1 hb,BS,F0,<-g.1]
 ·intro j t c g
  rcases hg j t c g with ⟨rfl,rfl,rfl⟩|⟨rfl,h0,g2⟩|⟨h0,h1,g2⟩
  ·rw[BS,F0]
   simp only[BC.g8,kr];simp [AH.k8,CB.new,AH.j6,CB.v7]
  ·obtain ⟨t',rfl⟩ : ∃ t',t=t'+1:=⟨t-1,by omega⟩
   rw[BS,F1];have hb:c.g8 (C5 σ j F) j=c.g8 σ key:=by
    obtain ⟨_,_,_,_,g3⟩:=GQ g2;obtain ⟨_,_,_,_,_,rfl⟩:=g3 t' rfl;rfl
   rw[hb];exact (RH (λ he=>absurd (h.sat.inj _ _ _ _ _ _ g2 r0 he).2 (by omega)) (h.sat.old _ _ _ g2)).trans (h.sat.g8 _ _ _ g2)
  ·rw[CH _ h0,XJ (Db _ _ _ g2).1 h0]
   exact (RH (λ he=>h1 (h.sat.inj _ _ _ _ _ _ g2 r0 he).1) (h.sat.old _ _ _ g2)).trans (h.sat.g8 _ _ _ g2)
 ·intro j t c g
  rcases hg j t c g with ⟨rfl,rfl,rfl⟩|⟨rfl,h0,g2⟩|⟨h0,h1,g2⟩
  ·rw[BS,F0]
   simp [AH.k8,CB.new,AH.j6,CB.v7]
  ·obtain ⟨t',rfl⟩ : ∃ t',t=t'+1:=⟨t-1,by omega⟩
   rw[BS,F1];exact Nat.lt_of_lt_of_le (h.sat.old _ _ _ g2) (RI _)
  ·rw[CH _ h0]
   exact Nat.lt_of_lt_of_le (h.sat.old _ _ _ g2) (RI _)
 ·have hold : ∀ j t c,c5 ((s,(σ key 0).1,.mx (rows++[none]))::w3 key M) j t=some c->(j=s/\t=0) \/ ∃ j0 t0 c0,c5 M j0 t0=some c0/\C5 σ s F j t=σ j0 t0/\((j0=key/\t0=t/\j=s)\/(j0=j/\t0=t/\j≠key)):=by
   intro j t c g;rcases hg j t c g with ⟨rfl,rfl,rfl⟩|⟨rfl,h0,g2⟩|⟨h0,h1,g2⟩
   ·exact Or.inl ⟨rfl,rfl⟩
   ·obtain ⟨t',rfl⟩ : ∃ t',t=t'+1:=⟨t-1,by omega⟩
    exact Or.inr ⟨_,_,_,g2,by rw[BS,F1],Or.inl ⟨rfl,rfl,rfl⟩⟩
   ·exact Or.inr ⟨_,_,_,g2,by rw[CH _ h0],Or.inr ⟨rfl,rfl,h1⟩⟩
  have om : ∀ j0 t0 c0,c5 M j0 t0=some c0->C5 σ s F s 0≠σ j0 t0:=by
   intro j0 t0 c0 g he;rw[BS,F0]at he;have:=h.sat.old _ _ _ g
   rw[<-he]at this;exact absurd this (Nat.lt_irrefl _)
  intro j t j' t' c c' g g' hj;rcases hold j t c g with ⟨rfl,rfl⟩|⟨j0,t0,c0,a1,a2,a3⟩<;>rcases hold j' t' c' g' with ⟨rfl,rfl⟩|⟨j1,t1,c1,b1,b2,b3⟩
  ·exact ⟨rfl,rfl⟩
  ·rw[b2]at hj;exact absurd hj (om _ _ _ b1)
  ·rw[a2]at hj;exact absurd hj.symm (om _ _ _ a1)
  ·rw[a2,b2]at hj
   obtain ⟨q1,q2⟩:=h.sat.inj _ _ _ _ _ _ a1 b1 hj;rcases a3 with ⟨x1,x2,x3⟩|⟨x1,x2,x3⟩<;>rcases b3 with ⟨y1,y2,y3⟩|⟨y1,y2,y3⟩
   ·exact ⟨x3.trans y3.symm,x2.symm.trans (q2.trans y2)⟩
   ·exact absurd (y1.symm.trans (q1.symm.trans x1)) y3
   ·exact absurd (x1.symm.trans (q1.trans y1)) x3
   ·exact ⟨x1.symm.trans (q1.trans y1),x2.symm.trans (q2.trans y2)⟩
 ·intro j t c g hw
  rcases hg j t c g with ⟨rfl,rfl,rfl⟩|⟨rfl,h0,g2⟩|⟨h0,h1,g2⟩
  ·rw[BS,F0];exact h.sat.low _ _ _ r0 rfl
  ·obtain ⟨t',rfl⟩ : ∃ t',t=t'+1:=⟨t-1,by omega⟩
   rw[BS,F1];exact h.sat.low _ _ _ g2 hw
  ·rw[CH _ h0];exact h.sat.low _ _ _ g2 hw
theorem bQ {k:Nat} {v:AV} (h:NM k v=false):OS k v=false:=by
 cases v with
 | row j t z o n=>simp only[NM]at h;simp only[OS,h,cond_false]
 | ptr j t a b=>simp only[NM]at h;simp only[OS,h,cond_false]
 | _=>rfl
theorem UT {k:Nat} : ∀ {cs:List AV},IQ k cs=false->N4 k cs=false
 | [],_=>rfl
 | c::r,h=>by
  simp only[IQ]at h;cases h1:NM k c<;>simp only[h1,cond_true,cond_false]at h
  ·simp only[N4,bQ h1,cond_false,UT h]
  ·cases h
theorem kU {k:Nat} : ∀ {es:List (List AV)},QA k es=false->SV k es=false
 | [],_=>rfl
 | c::r,h=>by
  simp only[QA]at h;cases h1:IQ k c<;>simp only[h1,cond_true,cond_false]at h
  ·simp only[SV,UT h1,cond_false,kU h]
  ·cases h
theorem US {k:Nat} {v:AV} (h:O7 k v=false):Q1 k v=false:=by
 cases v with
 | agg cs=>exact UT h
 | fn p f g cs=>exact UT h
 | row a b c d e=>exact bQ (v := .row a b c d e) h
 | ptr a b c d=>exact bQ (v := .ptr a b c d) h
 | _=>rfl
theorem kT {k:Nat} : ∀ {cs:List AV},TS k cs=false->SU k cs=false
 | [],_=>rfl
 | c::r,h=>by
  simp only[TS]at h;cases h1:O7 k c<;>simp only[h1,cond_true,cond_false]at h
  ·simp only[SU,US h1,cond_false,kT h]
  ·cases h
theorem Sy {k:Nat} {v:AV} (h:NN k v=false):PL k v=false:=by
 cases v with
 | g9 cs=>exact kT h
 | agg cs=>exact US (v := .agg cs) h
 | fn p f g cs=>exact US (v := .fn p f g cs) h
 | row a b c d e=>exact US (v := .row a b c d e) h
 | ptr a b c d=>exact US (v := .ptr a b c d) h
 | _=>rfl
theorem kW {k:Nat} : ∀ {tm:Tm},HT k tm=false->JJ k tm=false
 | [],_=>rfl
 | (i,v)::r,h=>by
  simp only[HT]at h;cases h1:NN k v<;>simp only[h1,cond_true,cond_false]at h
  ·simp only[JJ,Sy h1,cond_false,kW h]
  ·cases h
theorem kV {k:Nat} : ∀ {M:Mem},GU k M=false->H1 k M=false
 | [],_=>rfl
 | (i,s,c)::r,h=>by
  simp only[GU]at h;cases h0:Nat.beq k i<;>simp only[h0,cond_true,cond_false]at h
  ·cases h1:HS k c<;>simp only[h1,cond_true,cond_false]at h
   ·have:N3 k c=false:=by
     cases c with
     | bx cs=>exact UT h1
     | bs z es=>exact kU h1
     | _=>rfl
    simp only[H1,this,cond_false,kV h]
   ·cases h
  ·cases h
theorem RX.hid {M1 M2:Mem} (hm : ∀ k,c8 M1 k=c8 M2 k) (h:RX σ tm M1 st):RX σ tm M2 st:=by
 have hr : ∀ k t,c5 M1 k t=c5 M2 k t:=λ k t=>by simp only[c5,hm]
 refine ⟨h.tm,⟨λ k s c e => ?_,λ k t c e => ?_,λ k t c e => ?_,λ k t k' t' c c' e e' => ?_,λ k t c e hw => ?_⟩⟩
 ·rw[<-hm]at e;exact h.sat.site _ _ _ e
 ·rw[<-hr]at e;exact h.sat.g8 _ _ _ e
 ·rw[<-hr]at e;exact h.sat.old _ _ _ e
 ·rw[<-hr]at e e';exact h.sat.inj _ _ _ _ _ _ e e'
 ·rw[<-hr]at e;exact h.sat.low _ _ _ e hw
theorem RX.Oa (h:RX σ tm M st) {s q k2 s2 z:Nat} {es:List (List AV)} (e2:c8 M k2=some (s2,.rw z es)) (hk:s≠k2) (hm:GU s M=false) (ht:HT s tm=false) (hq:EZ q=true) :
  ∃ σ',σ' s 0=(q,st.own.j6 q)/\RX σ' tm ((s,q,.mx [some (z,es)])::w3 k2 M) ⟨st.tm,st.own.put q ((st.own q).new ⟨1,[[.row (σ k2 0).1 (σ k2 0).2 z 0 es.length]]⟩)⟩:=by
 have lu:BC.flat (.mx [none]):=by
  intro i x hx;cases i with
  | zero=>simp at hx
  | succ i=>simp at hx
 have h1:=h.jf (s:=s) (q:=q) hm ht (.mx [none]) lu rfl (λ_=>hq);have yf:c8 ((s,q,.mx [none])::M) k2=some (s2,.rw z es):=by
  simp only[c8,FD.2 (λ e=>hk e.symm),cond_false];exact e2
 have oc:H1 s ((s,q,.mx [none])::M)=false:=by simp only[H1,N3,cond_false,kV hm]
 have h2:=h1.Dl (k:=s) (s:=q) (k2:=k2) (i:=0) (rows:=[none]) (c0 := .mx [none]) (by simp [c8]) (Or.inl rfl) yf hk (kW ht) oc (by simp);refine ⟨C5 σ s (λ t=>if t=0+1 then σ k2 0 else (q,st.own.j6 q)),?_,?_⟩
 ·rw[BS];simp
 ·have hσ:(C5 (C5 σ s λ_=>(q,st.own.j6 q)) s λ t=>if t=0+1 then (C5 σ s λ_=>(q,st.own.j6 q)) k2 0 else (C5 σ s λ_=>(q,st.own.j6 q)) s t)=C5 σ s (λ t=>if t=0+1 then σ k2 0 else (q,st.own.j6 q)):=by
   funext j t
   by_cases hj:j=s
   ·subst hj;rw[BS,BS];simp only[BS,CH _ (λ e=>hk e.symm)]
   ·rw[CH _ hj,CH _ hj,CH _ hj]
  rw[hσ]at h2;have hM:w3 k2 ((s,q,BC.mx [none])::M)=(s,q,.mx [none])::w3 k2 M:=by
   simp only[w3,FD.2 (λ e=>hk e.symm),cond_false]
  rw[hM]at h2;have ho : ∀ b b':D7,(st.own.put q ((st.own q).new b)).put q (((st.own.put q ((st.own q).new b)) q).v7 (st.own.j6 q) (some b'))=st.own.put q ((st.own q).new b'):=by
   intro b b';rw[AH.tl,AH.k8];congr 1;simp only[CB.v7,CB.new,AH.j6,CB.mk.injEq,true_and];funext t'
   by_cases pn:t'=(st.own q).j6<;>simp [pn]
  have hn:(C5 σ s λ_=>(q,st.own.j6 q)) s 0=(q,st.own.j6 q):=by rw[BS]
  have ga:(C5 σ s λ_=>(q,st.own.j6 q)) k2=σ k2:=CH _ (λ e=>hk e.symm);simp only[hn,ga]at h2;rw[ho]at h2;refine RX.hid (λ k => ?_) h2;simp only[c8];cases Nat.beq k s<;>rfl
theorem RX.Jq (h:RX σ tm M st) {s key k2 ky s' s2 z:Nat} {rows:List (Option (Nat × List (List AV)))} {es:List (List AV)} (e:c8 M key=some (s',.mx rows)) (e2:c8 M k2=some (s2,.rw z es)) (hk:key≠k2) (hm:GU s M=false) (ht:HT s tm=false) :
  RX (C5 σ s λ t=>match t with|0=>(s',st.own.j6 s')|i+1=>if i=rows.length then σ k2 0 else σ key (i+1)) tm ((s,s',.mx (rows++[some (z,es)]))::w3 key (w3 k2 (w3 ky M)))
   ⟨st.tm,st.own.put s' (((st.own s').v7 (σ key 0).2 none).new ⟨1,B5 σ key 0 rows++[[.row (σ k2 0).1 (σ k2 0).2 z 0 es.length]]⟩)⟩:=by
 have hs:=h.sat.site _ _ _ e;subst hs;have r0:=EE e;have r2:=EE e2;generalize hF:(λ t=>match t with|0=>((σ key 0).1,st.own.j6 (σ key 0).1)|i+1=>if i=rows.length then σ k2 0 else σ key (i+1):Nat->Nat × Nat)=F;have F0:F 0=((σ key 0).1,st.own.j6 (σ key 0).1):=by rw[<-hF]
 have F1 : ∀ i,F (i+1)=if i=rows.length then σ k2 0 else σ key (i+1):=by intro i;rw[<-hF]
 have kr:B5 (C5 σ s F) s 0 (rows++[some (z,es)])=B5 σ key 0 rows++[[.row (σ k2 0).1 (σ k2 0).2 z 0 es.length]]:=by
  apply List.ext_getElem?;intro j;rw[E9,BS];rcases Nat.lt_trichotomy j rows.length with hj|hj|hj
  ·rw[List.getElem?_append_left hj,List.getElem?_append_left (by rw[FA];exact hj),E9]
   congr 1;funext r
   cases r with
   | none=>rfl
   | some x=>simp only[Nat.zero_add];rw[F1,if_neg (by omega)]
  ·subst hj
   rw[List.getElem?_append_right (Nat.le_refl _),List.getElem?_append_right (by rw[FA];exact Nat.le_refl _),FA];simp [F1]
  ·rw[List.getElem?_eq_none (by simp;omega),List.getElem?_eq_none (by simp [FA];omega)];rfl
 have Db : ∀ j t c',c5 M j t=some c'->HS s c'=false/\j≠s:=by
  intro j t c' g;obtain ⟨s1,c0,g1,g2,g3⟩:=GQ g;obtain ⟨g4,g5⟩:=RY hm _ _ _ g1;refine ⟨?_,g4⟩;cases t with
  | zero=>rw[g2 rfl];exact g5
  | succ i=>obtain ⟨rows,z,es,_,_,rfl⟩:=g3 i rfl;rfl
 have hg : ∀ j t c,c5 ((s,(σ key 0).1,.mx (rows++[some (z,es)]))::w3 key (w3 k2 (w3 ky M))) j t=some c ->
   (j=s/\t=0/\c = .mx (rows++[some (z,es)]))\/(j=s/\t=rows.length+1/\c = .rw z es)\/(j=s/\t≠0/\t≠rows.length+1/\c5 M key t=some c)\/(j≠s/\j≠key/\j≠k2/\c5 M j t=some c):=by
  intro j t c g;by_cases hj:j=s
  ·subst hj
   cases t with
   | zero=>rw[P0]at g;exact Or.inl ⟨rfl,rfl,(Option.some.inj g).symm⟩
   | succ t =>
    simp only[c5,c8,Nat.beq_refl,cond_true]at g;rcases Nat.lt_trichotomy t rows.length with pn|pn|pn
    ·rw[List.getElem?_append_left pn]at g
     refine Or.inr (Or.inr (Or.inl ⟨rfl,by omega,by omega,?_⟩));simp only[c5,e];exact g
    ·subst pn
     rw[List.getElem?_append_right (Nat.le_refl _),Nat.sub_self]at g;exact Or.inr (Or.inl ⟨rfl,rfl,(Option.some.inj g).symm⟩)
    ·rw[List.getElem?_eq_none (by simp;omega)]at g;cases g
  ·rw[KR hj]at g
   obtain ⟨g1,g2⟩:=LX g;obtain ⟨g3,g4⟩:=LX g2;obtain ⟨_,g5⟩:=LX g4;exact Or.inr (Or.inr (Or.inr ⟨hj,g1,g3,g5⟩))
 refine ⟨λ j => ?_,⟨?_,?_,?_,?_,?_⟩⟩
 ·rw[Z6 (TT ht j)];exact h.tm j
 ·intro j s1 c g
  simp only[c8]at g;cases hb:Nat.beq j s<;>simp only[hb,cond_true,cond_false]at g
  ·rw[CH _ (FD.1 hb)];exact h.sat.site _ _ _ (OC (OC (OC g).2).2).2
  ·simp only[Option.some.injEq,Prod.mk.injEq]at g
   rw[BQ.1 hb,BS,F0,<-g.1]
 ·intro j t c g
  rcases hg j t c g with ⟨rfl,rfl,rfl⟩|⟨rfl,rfl,rfl⟩|⟨rfl,h0,h1,g2⟩|⟨h0,h1,h2,g2⟩
  ·rw[BS,F0]
   simp only[BC.g8,kr];simp [AH.k8,CB.new,AH.j6,CB.v7]
  ·rw[BS,F1,if_pos rfl]
   exact (RH (λ he=>hk (h.sat.inj _ _ _ _ _ _ r2 r0 he).1.symm) (h.sat.old _ _ _ r2)).trans (h.sat.g8 _ _ _ r2)
  ·obtain ⟨t',rfl⟩ : ∃ t',t=t'+1:=⟨t-1,by omega⟩
   rw[BS,F1,if_neg (by omega)];have hb:c.g8 (C5 σ j F) j=c.g8 σ key:=by
    obtain ⟨_,_,_,_,g3⟩:=GQ g2;obtain ⟨_,_,_,_,_,rfl⟩:=g3 t' rfl;rfl
   rw[hb];exact (RH (λ he=>absurd (h.sat.inj _ _ _ _ _ _ g2 r0 he).2 (by omega)) (h.sat.old _ _ _ g2)).trans (h.sat.g8 _ _ _ g2)
  ·rw[CH _ h0,XJ (Db _ _ _ g2).1 h0]
   exact (RH (λ he=>h1 (h.sat.inj _ _ _ _ _ _ g2 r0 he).1) (h.sat.old _ _ _ g2)).trans (h.sat.g8 _ _ _ g2)
 ·intro j t c g
  rcases hg j t c g with ⟨rfl,rfl,rfl⟩|⟨rfl,rfl,rfl⟩|⟨rfl,h0,h1,g2⟩|⟨h0,h1,h2,g2⟩
  ·rw[BS,F0]
   simp [AH.k8,CB.new,AH.j6,CB.v7]
  ·rw[BS,F1,if_pos rfl]
   exact Nat.lt_of_lt_of_le (h.sat.old _ _ _ r2) (RI _)
  ·obtain ⟨t',rfl⟩ : ∃ t',t=t'+1:=⟨t-1,by omega⟩
   rw[BS,F1,if_neg (by omega)];exact Nat.lt_of_lt_of_le (h.sat.old _ _ _ g2) (RI _)
  ·rw[CH _ h0]
   exact Nat.lt_of_lt_of_le (h.sat.old _ _ _ g2) (RI _)
 ·have hold : ∀ j t c,c5 ((s,(σ key 0).1,.mx (rows++[some (z,es)]))::w3 key (w3 k2 (w3 ky M))) j t=some c->(j=s/\t=0) \/ ∃ j0 t0 c0,c5 M j0 t0=some c0/\C5 σ s F j t=σ j0 t0/\((j0=k2/\t0=0/\j=s/\t=rows.length+1)\/(j0=key/\t0=t/\j=s)\/(j0=j/\t0=t/\j≠key/\j≠k2)):=by
   intro j t c g;rcases hg j t c g with ⟨rfl,rfl,rfl⟩|⟨rfl,rfl,rfl⟩|⟨rfl,h0,h1,g2⟩|⟨h0,h1,h2,g2⟩
   ·exact Or.inl ⟨rfl,rfl⟩
   ·exact Or.inr ⟨_,_,_,r2,by rw[BS,F1,if_pos rfl],Or.inl ⟨rfl,rfl,rfl,rfl⟩⟩
   ·obtain ⟨t',rfl⟩ : ∃ t',t=t'+1:=⟨t-1,by omega⟩
    exact Or.inr ⟨_,_,_,g2,by rw[BS,F1,if_neg (by omega)],Or.inr (Or.inl ⟨rfl,rfl,rfl⟩)⟩
   ·exact Or.inr ⟨_,_,_,g2,by rw[CH _ h0],Or.inr (Or.inr ⟨rfl,rfl,h1,h2⟩)⟩
  have om : ∀ j0 t0 c0,c5 M j0 t0=some c0->C5 σ s F s 0≠σ j0 t0:=by
   intro j0 t0 c0 g he;rw[BS,F0]at he;have:=h.sat.old _ _ _ g
   rw[<-he]at this;exact absurd this (Nat.lt_irrefl _)
  intro j t j' t' c c' g g' hj;rcases hold j t c g with ⟨rfl,rfl⟩|⟨j0,t0,c0,a1,a2,a3⟩<;>rcases hold j' t' c' g' with ⟨rfl,rfl⟩|⟨j1,t1,c1,b1,b2,b3⟩
  ·exact ⟨rfl,rfl⟩
  ·rw[b2]at hj;exact absurd hj (om _ _ _ b1)
  ·rw[a2]at hj;exact absurd hj.symm (om _ _ _ a1)
  ·rw[a2,b2]at hj
   obtain ⟨q1,q2⟩:=h.sat.inj _ _ _ _ _ _ a1 b1 hj;rcases a3 with ⟨x1,x2,x3,x4⟩|⟨x1,x2,x3⟩|⟨x1,x2,x3,x4⟩<;>rcases b3 with ⟨y1,y2,y3,y4⟩|⟨y1,y2,y3⟩|⟨y1,y2,y3,y4⟩
   ·exact ⟨x3.trans y3.symm,x4.trans y4.symm⟩
   ·exact absurd (y1.symm.trans (q1.symm.trans x1)) hk
   ·exact absurd (y1.symm.trans (q1.symm.trans x1)) y4
   ·exact absurd (x1.symm.trans (q1.trans y1)) hk
   ·exact ⟨x3.trans y3.symm,x2.symm.trans (q2.trans y2)⟩
   ·exact absurd (y1.symm.trans (q1.symm.trans x1)) y3
   ·exact absurd (x1.symm.trans (q1.trans y1)) x4
   ·exact absurd (x1.symm.trans (q1.trans y1)) x3
   ·exact ⟨x1.symm.trans (q1.trans y1),x2.symm.trans (q2.trans y2)⟩
 ·intro j t c g hw
  rcases hg j t c g with ⟨rfl,rfl,rfl⟩|⟨rfl,rfl,rfl⟩|⟨rfl,h0,h1,g2⟩|⟨h0,h1,h2,g2⟩
  ·rw[BS,F0];exact h.sat.low _ _ _ r0 rfl
  ·rw[BS,F1,if_pos rfl];exact h.sat.low _ _ _ r2 rfl
  ·obtain ⟨t',rfl⟩ : ∃ t',t=t'+1:=⟨t-1,by omega⟩
   rw[BS,F1,if_neg (by omega)];exact h.sat.low _ _ _ g2 hw
  ·rw[CH _ h0];exact h.sat.low _ _ _ g2 hw
theorem G6 (k:IntKind) (n:Int):BJ σ (.int k n) = .int k n:=rfl
theorem G5 (b:Bool):BJ σ (.bool b) = .bool b:=rfl
theorem HU (l:Bool) (es:List (List AV)):BJ σ (.sl l es) = .sl l es:=rfl
theorem DS (k t z o n:Nat):BJ σ (.row k t z o n) = .row (σ k t).1 (σ k t).2 z o n:=rfl
theorem EG (k t i j:Nat):BJ σ (.ptr k t i j) = .ptr (σ k t).1 (σ k t).2 i j:=rfl
theorem IW (cs:List AV):BJ σ (.w6 cs) = .w6 cs:=rfl
theorem FL:BJ σ .nil = .nil:=rfl
theorem IV (cs:List AV):BJ σ (.agg cs) = .agg (cs.map (BA σ)):=rfl
theorem Agb (v:Value):BJ σ (.dm v) = .dm v:=rfl
theorem ZW (p:Bool) (f g:Nat) (cs:List AV):BJ σ (.fn p f g cs) = .fn p f g (cs.map (BA σ)):=rfl
theorem IX (cs:List AV):BJ σ (.g9 cs) = .g9 (cs.map (BM σ)):=rfl
def BU.res (own:AH):BU->AV × AH
 | .val v=>(v,own)
 | .new s b f=>(f (own.j6 s),own.put s ((own s).new b))
 | .vh s b f=>(f (own.j6 s),own.put s ((own s).new b))
 | .dp v o=>(v,o)
 | .Bo s v o=>(v,o.put s (own s))
 | .v7 s x=>(.g9 [],own.put s x)
 | .uo s x v=>(v,own.put s x)
theorem SS (st:St) (d:Option Nat) (E:BU):st.app d E=⟨(st.dst d (E.res st.own).1).tm,(E.res st.own).2⟩:=by
 cases E<;>cases d<;>rfl
def BT (L:Lib) (tm:Tm) (b9:List Nat) (K:AV->Mem->Prop) (op:DP) (st:St):Prop :=
 ∃ E σ' v M',(∀ c,g7 (CM L c) b9 st.ev st.own op=some E)/\K v M'/\(E.res st.own).1=BJ σ' v/\RX σ' tm M' ⟨st.tm,(E.res st.own).2⟩
theorem BT.val {L:Lib} {b9:List Nat} {K:AV->Mem->Prop} {op:DP} (h:RX σ tm M st) (v:AV) (he : ∀ c,g7 (CM L c) b9 st.ev st.own op=some (.val (BJ σ v))) (hk:K v M):BT L tm b9 K op st :=
 ⟨_,σ,v,M,he,hk,rfl,h⟩
variable {L:Lib} {b9:List Nat} {K:AV->Mem->Prop}
theorem Tu {x:AP} (hr:RX σ tm M st) (h:XE L tm M b9 K (.q6 x)):BT L tm b9 K (.q6 x) st:=by
 simp only[XE]at h;obtain ⟨h1,h2⟩:=YN h;exact BT.val hr _ (λ C=>by simp only[g7,hr.ev rfl h1]) h2
theorem Uc {s z:Nat} (hr:RX σ tm M st) (h:XE L tm M b9 K (.ak s z)):BT L tm b9 K (.ak s z) st:=by
 simp only[XE]at h;cases jd:EZ s<;>simp only[jd,cond_true,cond_false]at h;obtain ⟨k,h1,h2,h3⟩:=HW h;refine ⟨_,_,_,_,λ C=>rfl,h3,?_,hr.jf h1 h2 (.rw z []) trivial rfl (λ_=>jd)⟩;simp only[BU.res,DS,EG,BS]
theorem Tw {c a b:AP} (hr:RX σ tm M st) (h:XE L tm M b9 K (.pick c a b)):BT L tm b9 K (.pick c a b) st:=by
 simp only[XE]at h;split at h
 ·rename_i e
  obtain ⟨h1,h2⟩:=YN h;exact BT.val hr _ (λ C=>by simp only[g7,hr.ev e (by intro e;cases e),hr.ev rfl h1,G6,G5,HU,DS,EG,IW,FL,IV,IX]) h2
 ·rename_i e
  obtain ⟨h1,h2⟩:=YN h;exact BT.val hr _ (λ C=>by simp only[g7,hr.ev e (by intro e;cases e),hr.ev rfl h1,G6,G5,HU,DS,EG,IW,FL,IV,IX]) h2
 ·exact h.elim
theorem Aec {op:BinOp} {k k':IntKind} {a b:Int} {v:AV} (h:DN op k a k' b=some v):BJ σ v=v:=by
 cases op<;>simp only[DN]at h<;>split at h<;>first|(obtain rfl:=Option.some.inj h;rfl)|cases h
theorem AeH {k k':IntKind} (h:kq k k'=true):k=k':=by simpa [kq] using h
theorem Sp {op:BinOp} {k k':IntKind} {a b:Int} {K:AV->Prop} (h:bD op k a k' b K) : ∃ v,DN op k a k' b=some v/\K v:=by
 have key : ∀ (p q:Prop) [Decidable p] (A B:Prop) (c:Bool),(¬ p->q)->AF p q A B->(p/\A)\/(¬ p/\B):=by
  intro p q _ A B _ hq hc;by_cases hp:p
  ·exact Or.inl ⟨hp,hc.1 hp⟩
  ·exact Or.inr ⟨hp,hc.2 (hq hp)⟩
 cases op;all_goals try (exact h)
 all_goals (
  simp only[bD]at h;cases hk:kq k k'<;>simp only[hk,cond_true,cond_false]at h;obtain rfl:=AeH hk;simp only[DN,if_true])
 ·rcases key (a=b) _ _ _ true (λ e=>e) h with ⟨h1,h2⟩|⟨h1,h2⟩
  ·exact ⟨_,rfl,by rw[show (a == b)=true by simpa using h1];exact h2⟩
  ·exact ⟨_,rfl,by rw[show (a == b)=false by simpa using h1];exact h2⟩
 ·rcases key (a≠b) _ _ _ true (λ e=>by omega) h with ⟨h1,h2⟩|⟨h1,h2⟩
  ·exact ⟨_,rfl,by rw[show (a != b)=true by simpa using h1];exact h2⟩
  ·exact ⟨_,rfl,by rw[show (a != b)=false by simpa using h1];exact h2⟩
 ·rcases key (a<b) _ _ _ true (λ e=>by omega) h with ⟨h1,h2⟩|⟨h1,h2⟩
  ·exact ⟨_,rfl,by simpa [h1] using h2⟩
  ·exact ⟨_,rfl,by simpa [h1] using h2⟩
 ·rcases key (a<=b) _ _ _ true (λ e=>by omega) h with ⟨h1,h2⟩|⟨h1,h2⟩
  ·exact ⟨_,rfl,by simpa [h1] using h2⟩
  ·exact ⟨_,rfl,by simpa [h1] using h2⟩
 ·rcases key (b<a) _ _ _ true (λ e=>by omega) h with ⟨h1,h2⟩|⟨h1,h2⟩
  ·exact ⟨_,rfl,by simpa [h1] using h2⟩
  ·exact ⟨_,rfl,by simpa [h1] using h2⟩
 ·rcases key (b<=a) _ _ _ true (λ e=>by omega) h with ⟨h1,h2⟩|⟨h1,h2⟩
  ·exact ⟨_,rfl,by simpa [h1] using h2⟩
  ·exact ⟨_,rfl,by simpa [h1] using h2⟩
theorem Tb {op:BinOp} {x y:AP} (hr:RX σ tm M st) (h:XE L tm M b9 K (.bin op x y)):BT L tm b9 K (.bin op x y) st:=by
 simp only[XE]at h;split at h
 ·rename_i k a k' b e1 e2
  obtain ⟨v,hv,hk⟩:=Sp h;exact BT.val hr v (λ C=>by
   simp only[g7,hr.ev e1 (by intro e;cases e),hr.ev e2 (by intro e;cases e),G6,G5,HU,DS,EG,IW,FL,IV,IX,hv,Option.map_some];exact congrArg some (congrArg BU.val (Aec (σ:=σ) hv).symm)) hk
 ·exact h.elim
theorem zZ {ne:Bool} {x y:AP} (hr:RX σ tm M st) (h:XE L tm M b9 K (.beq ne x y)):BT L tm b9 K (.beq ne x y) st:=by
 simp only[XE]at h;split at h
 ·rename_i a b e1 e2
  rw[PU]at h;exact BT.val hr _ (λ C=>by
   simp only[g7,hr.ev e1 (by intro e;cases e),hr.ev e2 (by intro e;cases e),G6,G5,HU,DS,EG,IW,FL,IV,IX];cases ne<;>rfl) h
 ·exact h.elim
theorem Ub {op:UnOp} {x:AP} (hr:RX σ tm M st) (h:XE L tm M b9 K (.un op x)):BT L tm b9 K (.un op x) st:=by
 simp only[XE]at h;split at h
 ·rename_i k n e1
  obtain ⟨v,hv,hk⟩:=h;refine BT.val hr v (λ C => ?_) hk;simp only[g7,hr.ev e1 (by intro e;cases e),G6,G5,HU,DS,EG,IW,FL,IV,IX,hv,Option.map_some];cases op<;>simp only[QF,Option.some.injEq,reduceCtorEq]at hv<;>subst hv<;>rfl
 ·rename_i b e1
  split at h
  ·rw[PU]at h
   exact BT.val hr _ (λ C=>by simp only[g7,hr.ev e1 (by intro e;cases e),G6,G5,HU,DS,EG,IW,FL,IV,IX,QF,Option.map_some]) h
  ·exact h.elim
 ·exact h.elim
theorem Tg {k:IntKind} {x:AP} (hr:RX σ tm M st) (h:XE L tm M b9 K (.conv k x)):BT L tm b9 K (.conv k x) st:=by
 simp only[XE]at h;split at h
 ·rename_i k' n e1
  exact BT.val hr _ (λ C=>by simp only[g7,hr.ev e1 (by intro e;cases e),G6,G5,HU,DS,EG,IW,FL,IV,IX]) h.h
 ·exact h.elim
theorem Tc {s:Nat} {x:AP} (hr:RX σ tm M st) (h:XE L tm M b9 K (.box s x)):BT L tm b9 K (.box s x) st:=by
 simp only[XE]at h;obtain ⟨h0,cs,hc,h⟩:=YM h;obtain ⟨k,h1,h2,h3⟩:=HW h;refine ⟨.new s (BC.g8 σ k (.bx cs)) (λ t => .ptr s t 0 0),_,_,_,λ C => ?_,h3,?_,hr.jf h1 h2 (.bx cs) trivial (tL (pA h2 x) hc) (λ h=>nomatch h)⟩
 ·simp only[g7,hr.ev rfl h0,N2 hc,List.length_map,BC.g8]
 ·simp only[BU.res,DS,EG,BS]
theorem zV {s:Nat} {z:List AV} (hr:RX σ tm M st) (h:XE L tm M b9 K (.alloc s z)):BT L tm b9 K (.alloc s z) st:=by
 simp only[XE]at h;cases hd:D9 z<;>simp only[hd,cond_true,cond_false]at h;obtain ⟨k,h1,h2,h3⟩:=HW h;refine ⟨.new s (BC.g8 σ k (.bx z)) (λ t => .ptr s t 0 0),_,_,_,λ C => ?_,h3,?_,hr.jf h1 h2 (.bx z) trivial (cC hd) (λ h=>nomatch h)⟩
 ·simp only[g7,BC.g8,H4 hd]
 ·simp only[BU.res,DS,EG,BS]
theorem ZI {cs ds:List AV} {off n:Nat} (h:part cs off n=some ds):part (cs.map (BA σ)) off n=some (ds.map (BA σ)):=by
 simp only[part]at h ⊢;split at h
 ·rename_i hl
  rw[if_pos (by simpa using hl)];obtain rfl:=Option.some.inj h;rw[List.map_take,List.map_drop]
 ·cases h
theorem pC {v:AV} {K:AV->Prop} (h:fF v K):v ≠ .any/\BJ σ v=BA σ v/\K v:=by
 cases v<;>simp only[fF]at h<;>first|exact h.elim|exact ⟨(by intro e;cases e),rfl,h⟩
theorem O3 (σ:E7) {agg:Bool} {ds:List AV} {K:AV->Prop} (h:rm agg ds K) : ∃ v,JV agg (ds.map (BA σ))=some (BJ σ v)/\K v:=by
 cases agg
 ·simp only[rm]at h
  split at h
  ·rename_i c
   obtain ⟨_,h1,h2⟩:=pC (σ:=σ) h;exact ⟨c,by rw[h1];rfl,h2⟩
  ·exact h.elim
 ·exact ⟨.agg ds,rfl,h⟩
theorem uZ {cs vs:List AV} {j:Nat}:(splice cs j vs).map (BA σ)=splice (cs.map (BA σ)) j (vs.map (BA σ)):=by
 simp only[splice,List.map_append,List.map_take,List.map_drop,List.length_map]
theorem pH (hr:RX σ tm M st) : ∀ {ps:List (Nat × Nat × AP)} {cells:List AV} {K:List AV->Prop},dL tm ps cells K -> ∃ cs,fill (cells.map (BA σ)) (ps.map λ p=>(p.1,p.2.1,st.ev p.2.2))=some (cs.map (BA σ))/\K cs
 | [],cells,K,h=>⟨cells,rfl,h⟩
 | p::r,cells,K,h=>by
  obtain ⟨h0,vs,hc,h⟩:=YM (show fC (ex tm p.2.2) λ vs=>bif Nat.beq vs.length p.2.1 then bif Nat.ble (p.1+p.2.1) cells.length then fL (splice cells p.1 vs) λ cells=>dL tm r cells K else False else False from h);cases hz:Nat.beq vs.length p.2.1<;>simp only[hz,cond_true,cond_false]at h;have hl:Nat.ble (p.1+p.2.1) cells.length=true:=by
   cases hl:Nat.ble (p.1+p.2.1) cells.length
   ·rw[hl]at h;exact h.elim
   ·rfl
  rw[hl]at h;simp only[cond_true,G0]at h;obtain ⟨cs,h1,h2⟩:=pH hr h;refine ⟨cs,?_,h2⟩;simp only[List.map_cons,fill,hr.ev rfl h0,N2 hc,List.length_map];rw[if_pos ⟨BQ.1 hz,Nat.le_of_ble_eq_true hl⟩,<-uZ];exact h1
theorem Te {z:List AV} {ps:List (Nat × Nat × AP)} (hr:RX σ tm M st) (h:XE L tm M b9 K (.build z ps)):BT L tm b9 K (.build z ps) st:=by
 simp only[XE]at h;cases hd:D9 z<;>simp only[hd,cond_true,cond_false]at h;obtain ⟨cs,h1,h2⟩:=pH hr h;refine BT.val hr (.agg cs) (λ C => ?_) h2;rw[H4 hd]at h1;simp only[g7,h1];rfl
theorem oZ : ∀ l:List AP,PT tm l=l.map (ex tm)
 | []=>rfl
 | x::r=>by rw[PT,oZ r];rfl
theorem lW : ∀ {es:List (List AV)},U3 es=true -> ∀ e∈es,D9 e=true
 | e0::r,h,e,he=>by
  simp only[U3]at h;cases h1:D9 e0<;>simp only[h1,cond_true,cond_false]at h
  ·cases h
  ·rcases List.mem_cons.1 he with rfl|he
   ·exact h1
   ·exact lW h e he
theorem We {es:List (List AV)} (h : ∀ e∈es,D9 e=true):(es.map λ cs=>cs.map (BA σ))=es:=by
 conv=>rhs;rw[<-List.map_id es]
 exact List.map_congr_left λ e he=>H4 (h e he)
theorem AeP {es:List (List AV)} {K:Nat->Prop} (h:eR es K):K es.length:=by
 unfold eR at h;split at h<;>exact h
theorem kR (hr:RX σ tm M st) {z:Nat} : ∀ {l:List AP} {K:List (List AV)->Prop},bG tm z l K -> ∃ es,l.mapM (λ x=>cellsOf (st.ev x))=some (es.map λ cs=>cs.map (BA σ))/\(∀ e∈es,e.length=z)/\(∀ k,HT k tm=false->QA k es=false)/\K es
 | [],K,h=>⟨[],rfl,(λ e he=>by cases he),λ_ _=>rfl,h⟩
 | x::r,K,h=>by
  obtain ⟨h0,cs,hc,h⟩:=YM (show fC (ex tm x) λ cs=>bif Nat.beq cs.length z then bG tm z r λ es=>K (cs::es) else False from h);cases hz:Nat.beq cs.length z<;>simp only[hz,cond_true,cond_false]at h;obtain ⟨es,h1,h2,h4,h3⟩:=kR hr h;refine ⟨cs::es,?_,λ e he => ?_,λ k hk => ?_,h3⟩
  ·rw[List.mapM_cons,h1,hr.ev rfl h0,N2 hc];rfl
  ·rcases List.mem_cons.1 he with rfl|he
   ·exact BQ.1 hz
   ·exact h2 e he
  ·simp only[QA,tL (pA hk x) hc,cond_false,h4 k hk]
theorem evL (hr:RX σ tm M st) {xs:List AP} (h : ∀ v∈PT tm xs,v ≠ .any):xs.map st.ev=(PT tm xs).map (BJ σ):=by
 rw[oZ]at h ⊢;rw[List.map_map];exact List.map_congr_left λ x hx=>hr.ev rfl (h _ (List.mem_map_of_mem hx))
theorem Td {s z:Nat} {ps:List AP} (hr:RX σ tm M st) (h:XE L tm M b9 K (.c7 s z ps)):BT L tm b9 K (.c7 s z ps) st:=by
 simp only[XE]at h;cases jd:EZ s<;>simp only[jd,cond_true,cond_false]at h;obtain ⟨es,g1,g2,g3,h⟩:=kR hr h;obtain ⟨k,h1,h2,h3⟩:=HW (AeP h);have key : ∀ c:BC,c.flat->HS k c=false->c.g8 σ k=⟨z,es.map λ cs=>cs.map (BA σ)⟩->K (.row k 0 z 0 es.length) ((k,s,c)::M)->BT L tm b9 K (.c7 s z ps) st:=by
  intro c hf hc hb hk;refine ⟨.new s (c.g8 σ k) (λ t => .row s t z 0 es.length),_,_,_,λ C => ?_,hk,?_,hr.jf h1 h2 c hf hc (λ_=>jd)⟩
  ·simp only[g7,g1,hb]
   rw[if_pos (λ e he=>by obtain ⟨e',ju,rfl⟩:=List.mem_map.1 he;simpa using g2 e' ju)];simp only[List.length_map]
  ·simp only[BU.res,DS,BS]
 cases hd:U3 es<;>simp only[hd,cond_true,cond_false]at h3
 ·exact key (.bs z es) trivial (g3 k h2) rfl h3
 ·exact key (.rw z es) trivial rfl (by simp only[BC.g8];rw[We (lW hd)]) h3
theorem Ti {x:AP} {off:Nat} (hr:RX σ tm M st) (h:XE L tm M b9 K (.bn x off)):BT L tm b9 K (.bn x off) st:=by
 simp only[XE]at h;split at h
 ·rename_i key t i j e
  exact BT.val hr _ (λ C=>by simp only[g7,hr.ev e (by intro e;cases e),G6,G5,HU,DS,EG,IW,FL,IV,IX]) h
 ·rename_i cs e
  rw[G0]at h;exact BT.val hr _ (λ C=>by simp only[g7,hr.ev e (by intro e;cases e),G6,G5,HU,DS,EG,IW,FL,IV,IX]) h
 ·exact h.elim
theorem Tj {x:AP} {off n:Nat} {agg:Bool} (hr:RX σ tm M st) (h:XE L tm M b9 K (.qf x off n agg)):BT L tm b9 K (.qf x off n agg) st:=by
 simp only[XE]at h;split at h
 ·rename_i cs e
  split at h
  ·rename_i ds hp
   rw[G0]at h;obtain ⟨v,h1,h2⟩:=O3 σ h;exact BT.val hr v (λ C=>by simp only[g7,hr.ev e (by intro e;cases e),IV,ZI hp,h1,Option.map_some]) h2
  ·exact h.elim
 ·exact h.elim
theorem Tl {arr:Option Nat} {z:Nat} {x i:AP} (hr:RX σ tm M st) (h:XE L tm M b9 K (.aq arr z x i)):BT L tm b9 K (.aq arr z x i) st:=by
 simp only[XE]at h;split at h
 ·rename_i kd n e1
  split at h
  ·rename_i len key t i' j e2
   obtain ⟨h1,h2⟩:=h;exact BT.val hr _ (λ C=>by simp only[g7,hr.ev e1 (by intro e;cases e),hr.ev e2 (by intro e;cases e),G6,G5,HU,DS,EG,IW,FL,IV,IX];rw[if_pos h1]) h2
  ·rename_i len cs e2
   obtain ⟨h1,h2⟩:=h;rw[G0]at h2;exact BT.val hr _ (λ C=>by simp only[g7,hr.ev e1 (by intro e;cases e),hr.ev e2 (by intro e;cases e),G6,G5,HU,DS,EG,IW,FL,IV,IX];rw[if_pos h1]) h2
  ·rename_i key t z' off len e2
   cases hz:Nat.beq z' z<;>simp only[hz,cond_true,cond_false]at h;obtain ⟨h1,h2⟩:=h;exact BT.val hr _ (λ C=>by simp only[g7,hr.ev e1 (by intro e;cases e),hr.ev e2 (by intro e;cases e),G6,G5,HU,DS,EG,IW,FL,IV,IX];rw[if_pos ⟨h1.1,h1.2,BQ.1 hz⟩]) h2
  ·rename_i q es e2
   obtain ⟨h1,cs,h2,h3,h4⟩:=h;exact BT.val hr _ (λ C=>by simp only[g7,hr.ev e1 (by intro e;cases e),hr.ev e2 (by intro e;cases e),G6,G5,HU,DS,EG,IW,FL,IV,IX,h2];rw[if_pos h1,if_pos h3]) h4
  ·exact h.elim
 ·exact h.elim
theorem TM {s:Nat} {own:AH} : ∀ {b9:List Nat},P7 s b9=true->own.l9 b9 s=own s
 | [],_=>rfl
 | b::r,h=>by
  have hm:JT s (b::r)=false:=by simpa [P7] using h
  have : ∀ l:List Nat,JT s l=false->own.l9 l s=own s:=by
   intro l;induction l with
   | nil=>intro _;rfl
   | cons b r ih =>
    intro h;simp only[JT]at h;cases hb:Nat.beq s b<;>simp only[hb,cond_true,cond_false]at h
    ·simp only[AH.l9]
     rw[if_neg (FD.1 hb)];exact ih h
    ·cases h
  exact this _ hm
theorem gC {s:Nat} {own:AH} (hs:EZ s=true) : ∀ {b9:List Nat},RQ b9=true->own.l9 b9 s=own s
 | [],_=>rfl
 | b::r,h=>by
  simp only[RQ]at h;cases hb:EZ b<;>simp only[hb,cond_true,cond_false]at h
  ·have n9:s≠b:=λ e=>by rw[e,hb]at hs;cases hs
   show (if s=b then _ else own.l9 r s)=own s;rw[if_neg n9];exact gC hs h
  ·cases h
theorem To {agg:Bool} {n:Nat} {x:AP} (hr:RX σ tm M st) (h:XE L tm M b9 K (.ld agg n x)):BT L tm b9 K (.ld agg n x) st:=by
 simp only[XE]at h;split at h
 ·rename_i key t i j e
  split at h
  ·rename_i s c hm
   have hs:=hr.sat.site _ _ _ hm;split at h
   ·cases hb:P7 s b9<;>simp only[hb,cond_true,cond_false]at h
    have cj:=hr.sat.g8 _ _ _ (EE hm);rw[hs]at cj;split at h
    ·rename_i cs
     cases hi:Nat.beq i 0<;>simp only[hi,cond_true,cond_false]at h;obtain rfl:=BQ.1 hi;split at h
     ·rename_i ds hp
      rw[G0]at h;obtain ⟨v,h1,h2⟩:=O3 σ h;exact BT.val hr v (λ C=>by
       simp only[g7,hr.ev e (by intro e;cases e),EG,AH.kb,AH.get,hs];rw[TM hb,cj];simp only[BC.g8,List.getElem?_cons_zero,ZI hp,h1,Option.map_some]) h2
     ·exact h.elim
    ·rename_i z es
     obtain ⟨cs,ds,g1,g2,h⟩:=h;rw[G0]at h;cases hd:D9 ds<;>simp only[hd,cond_true,cond_false]at h;obtain ⟨v,h1,h2⟩:=O3 σ h;rw[H4 hd]at h1;exact BT.val hr v (λ C=>by
      simp only[g7,hr.ev e (by intro e;cases e),EG,AH.kb,AH.get,hs];rw[TM hb,cj];simp only[BC.g8,g1,g2,h1,Option.map_some]) h2
    ·rename_i z es
     split at h
     ·rename_i cs g1
      split at h
      ·rename_i ds hp
       rw[G0]at h;obtain ⟨v,h1,h2⟩:=O3 σ h;exact BT.val hr v (λ C=>by
        simp only[g7,hr.ev e (by intro e;cases e),EG,AH.kb,AH.get,hs];rw[TM hb,cj];simp only[BC.g8,List.getElem?_map,g1,Option.map_some,ZI hp,h1]) h2
      ·exact h.elim
     ·exact h.elim
    ·rename_i rows
     cases hj:Nat.beq j 0<;>simp only[hj,cond_true,cond_false]at h;cases hn:Nat.beq n 1<;>simp only[hn,cond_true,cond_false]at h;obtain rfl:=BQ.1 hj;obtain rfl:=BQ.1 hn;obtain ⟨r,g1,h⟩:=h;have fin : ∀ c:AV,(B5 σ key 0 rows)[i]? = some [BA σ c]->rm agg [c] (λ v=>K v M)->BT L tm b9 K (.ld agg 1 x) st:=by
      intro c hc h;obtain ⟨v,h1,h2⟩:=O3 σ h;have hp:part [BA σ c] 0 1=some [BA σ c]:=by simp [part]
      exact BT.val hr v (λ C=>by
       simp only[g7,hr.ev e (by intro e;cases e),EG,AH.kb,AH.get,hs];rw[TM hb,cj];simp only[BC.g8,hc,hp];simp only[List.map_cons,List.map_nil]at h1;simp only[h1,Option.map_some]) h2
     split at h
     ·rename_i z es
      exact fin _ (by rw[E9,g1];simp [BA]) h
     ·exact fin _ (by rw[E9,g1];simp [BA]) h
    ·exact h.elim
    ·exact h.elim
   ·rename_i i'
    split at h
    ·rename_i rows
     obtain ⟨z,es,g0,cs,ds,g1,g2,h⟩:=h;rw[G0]at h;cases hd:D9 ds<;>simp only[hd,cond_true,cond_false]at h;obtain ⟨v,h1,h2⟩:=O3 σ h;rw[H4 hd]at h1;have cj:=hr.sat.g8 key (i'+1) (.rw z es) (by simp [c5,hm,g0]);exact BT.val hr v (λ C=>by
      simp only[g7,hr.ev e (by intro e;cases e),EG,AH.kb,AH.get,AH.l9];rw[cj];simp only[BC.g8,g1,g2,h1,Option.map_some]) h2
    ·rename_i rows b r
     cases hb:RQ (b::r)<;>simp only[hb,cond_true,cond_false]at h;obtain ⟨z,es,g0,cs,ds,g1,g2,h⟩:=h;rw[G0]at h;cases hd:D9 ds<;>simp only[hd,cond_true,cond_false]at h;obtain ⟨v,h1,h2⟩:=O3 σ h;rw[H4 hd]at h1;have g':c5 M key (i'+1)=some (.rw z es):=by simp [c5,hm,g0]
     have cj:=hr.sat.g8 key (i'+1) (.rw z es) g';have jd:=hr.sat.low key (i'+1) _ g' rfl;exact BT.val hr v (λ C=>by
      simp only[g7,hr.ev e (by intro e;cases e),EG,AH.kb,AH.get];rw[gC jd hb,cj];simp only[BC.g8,g1,g2,h1,Option.map_some]) h2
    ·exact h.elim
  ·exact h.elim
 ·rename_i cs e
  split at h
  ·rename_i ds hp
   rw[G0]at h;cases hd:D9 ds<;>simp only[hd,cond_true,cond_false]at h;obtain ⟨v,h1,h2⟩:=O3 σ h;rw[H4 hd]at h1;exact BT.val hr v (λ C=>by simp only[g7,hr.ev e (by intro e;cases e),IW,hp,h1,Option.map_some]) h2
  ·exact h.elim
 ·exact h.elim
theorem Tp {agg:Bool} {n:Nat} {x:AP} (hr:RX σ tm M st) (h:XE L tm M b9 K (.ya agg n x)):BT L tm b9 K (.ya agg n x) st:=by
 simp only[XE]at h;split at h
 ·rename_i cs e
  split at h
  ·rename_i ds hp
   rw[G0]at h;cases hd:D9 ds<;>simp only[hd,cond_true,cond_false]at h;obtain ⟨v,h1,h2⟩:=O3 σ h;rw[H4 hd]at h1;exact BT.val hr v (λ C=>by simp only[g7,hr.ev e (by intro e;cases e),IW,hp,h1,Option.map_some]) h2
  ·exact h.elim
 ·exact h.elim
theorem kD {n:Nat} {x v:AP} (hr:RX σ tm M st) (h:XE L tm M b9 K (.st n x v)):BT L tm b9 K (.st n x v) st:=by
 simp only[XE,iH]at h;split at h
 ·rename_i key t i j e
  obtain ⟨h0,vs,hc,h5⟩:=YM h;clear h;cases hn:Nat.beq vs.length n<;>simp only[hn,cond_true,cond_false]at h5;have uc:=BQ.1 hn;split at h5
  ·rename_i s c hm
   have hs:=hr.sat.site _ _ _ hm;split at h5
   ·have cj:=hr.sat.g8 _ _ _ (EE hm)
    rw[hs]at cj;split at h5
    ·rename_i cs
     cases hi:Nat.beq i 0<;>simp only[hi,cond_true,cond_false]at h5;obtain rfl:=BQ.1 hi;have hl:Nat.ble (j+vs.length) cs.length=true:=by
      cases hl:Nat.ble (j+vs.length) cs.length
      ·rw[hl]at h5;exact h5.elim
      ·rfl
     rw[hl]at h5;simp only[cond_true,G0]at h5;refine ⟨.dp (.g9 []) (st.own.put s ((st.own s).v7 (σ key 0).2 (some (BC.g8 σ key (.bx (splice cs j vs)))))),σ,_,_,λ C => ?_,h5,rfl,hr.Og hm trivial _ trivial (λ h=>nomatch h)⟩;simp only[g7,hr.ev e (by intro e;cases e),EG,hr.ev rfl h0,N2 hc,List.length_map];rw[if_pos uc];simp only[AH.lf,AH.get,hs,cj,BC.g8,List.getElem?_cons_zero,List.length_map];rw[if_pos (Nat.le_of_ble_eq_true hl)];simp only[Option.map_some,List.set_cons_zero,uZ];have:(splice cs j vs).length=cs.length:=by
      have:=Nat.le_of_ble_eq_true hl
      simp only[splice,List.length_append,List.length_take,List.length_drop];omega
     rw[this]
    ·rename_i z es
     cases hd:D9 vs<;>simp only[hd,cond_true,cond_false]at h5;obtain ⟨cs,g1,g2,h5⟩:=h5;refine ⟨.dp (.g9 []) (st.own.put s ((st.own s).v7 (σ key 0).2 (some (BC.g8 σ key (.rw z (es.set i (splice cs j vs))))))),σ,_,_,λ C => ?_,h5,rfl,hr.Og hm trivial _ trivial (λ_=>rfl)⟩;simp only[g7,hr.ev e (by intro e;cases e),EG,hr.ev rfl h0,N2 hc,H4 hd];rw[if_pos uc];simp only[AH.lf,AH.get,hs,cj,BC.g8,g1];rw[if_pos g2];rfl
    ·exact h5.elim
    ·rename_i rows
     split at h5
     ·rename_i ay z m
      cases km:Nat.beq key ay<;>simp only[km,cond_true,cond_false]at h5;cases dk:JJ key tm<;>simp only[dk,cond_true,cond_false]at h5;cases oc:H1 key M<;>simp only[oc,cond_true,cond_false]at h5;cases hj:Nat.beq j 0<;>simp only[hj,cond_true,cond_false]at h5;obtain rfl:=BQ.1 hj;split at h5
      ·rename_i s2 z' es jy
       cases hz:Nat.beq z z'<;>simp only[hz,cond_true,cond_false]at h5;obtain rfl:=BQ.1 hz;rw[OW]at h5;obtain ⟨rfl,hi,h5⟩:=h5;have hlen:(B5 σ key 0 rows)[i]? = some ((B5 σ key 0 rows)[i]'(by rw[FA];exact hi)):=zE _;have gl:((B5 σ key 0 rows)[i]'(by rw[FA];exact hi)).length=1:=by
        have:=E9 (σ:=σ) (k:=key) rows 0 i
        rw[hlen,zE hi]at this;simp only[Option.map_some,Option.some.injEq]at this;rw[this];split<;>rfl
       refine ⟨.dp (.g9 []) (st.own.put s ((st.own s).v7 (σ key 0).2 (some ⟨1,(B5 σ key 0 rows).set i [.row (σ ay 0).1 (σ ay 0).2 z 0 es.length]⟩))),_,_,_,λ C => ?_,h5,rfl,hr.Dl hm (Or.inl rfl) jy (FD.1 km) dk oc hi⟩;simp only[g7,hr.ev e (by intro e;cases e),EG,hr.ev rfl h0,N2 hc,List.length_map];rw[if_pos uc];simp only[AH.lf,AH.get,hs,cj,BC.g8,hlen,List.map_cons,List.map_nil,List.length_cons,List.length_nil,BA];rw[if_pos (by omega)];simp only[Option.map_some];have Hj:splice ((B5 σ key 0 rows)[i]'(by rw[FA];exact hi)) 0 [.row (σ ay 0).1 (σ ay 0).2 z 0 es.length]=[.row (σ ay 0).1 (σ ay 0).2 z 0 es.length]:=by
        simp only[splice,List.take_zero,List.nil_append,List.length_cons,List.length_nil,Nat.zero_add];rw[List.drop_of_length_le (by omega)];rfl
       rw[Hj]
      ·exact h5.elim
     ·rename_i ay t2 z m
      cases km:Nat.beq key ay<;>simp only[km,cond_true,cond_false]at h5;cases hj:Nat.beq j 0<;>simp only[hj,cond_true,cond_false]at h5;obtain rfl:=BQ.1 hj;obtain rfl:=BQ.1 km;obtain ⟨z',es,g0,h5⟩:=h5;cases hz:Nat.beq z z'<;>simp only[hz,cond_true,cond_false]at h5;obtain rfl:=BQ.1 hz;obtain ⟨⟨rfl,hi⟩,h5⟩:=h5;have w9:BC.g8 σ key (.vw ((List.range rows.length).set i t2) rows)=⟨1,(B5 σ key 0 rows).set i [.row (σ key (t2+1)).1 (σ key (t2+1)).2 z 0 es.length]⟩:=by
       simp only[BC.g8];congr 1;apply List.ext_getElem?;intro p;rw[List.getElem?_map];by_cases hp:i=p
       ·subst hp
        rw[List.getElem?_set_self (by rw[List.length_range];exact hi),List.getElem?_set_self (by rw[FA];exact hi),Option.map_some,E9,g0];simp
       ·rw[List.getElem?_set_ne hp,List.getElem?_set_ne hp,E9]
        by_cases Dz:p<rows.length
        ·rw[List.getElem?_range Dz,Option.map_some,E9,zE Dz,Option.map_some,Option.getD_some]
        ·rw[List.getElem?_eq_none (by rw[List.length_range];omega),List.getElem?_eq_none (by omega)];rfl
      have hv:=hr.view (w:=(List.range rows.length).set i t2) hm (Or.inl rfl);have hlen:(B5 σ key 0 rows)[i]? = some ((B5 σ key 0 rows)[i]'(by rw[FA];exact hi)):=zE _;have gl:((B5 σ key 0 rows)[i]'(by rw[FA];exact hi)).length=1:=by
       have:=E9 (σ:=σ) (k:=key) rows 0 i
       rw[hlen,zE hi]at this;simp only[Option.map_some,Option.some.injEq]at this;rw[this];split<;>rfl
      refine ⟨.dp (.g9 []) (st.own.put s ((st.own s).v7 (σ key 0).2 (some (BC.g8 σ key (.vw ((List.range rows.length).set i t2) rows))))),_,_,_,λ C => ?_,h5,rfl,hv⟩;rw[w9];simp only[g7,hr.ev e (by intro e;cases e),EG,hr.ev rfl h0,N2 hc,List.length_map];rw[if_pos uc];simp only[AH.lf,AH.get,hs,cj,BC.g8,hlen,List.map_cons,List.map_nil,List.length_cons,List.length_nil,BA];rw[if_pos (by omega)];simp only[Option.map_some];have Hj:splice ((B5 σ key 0 rows)[i]'(by rw[FA];exact hi)) 0 [.row (σ key (t2+1)).1 (σ key (t2+1)).2 z 0 es.length]=[.row (σ key (t2+1)).1 (σ key (t2+1)).2 z 0 es.length]:=by
       simp only[splice,List.take_zero,List.nil_append,List.length_cons,List.length_nil,Nat.zero_add];rw[List.drop_of_length_le (by omega)];rfl
      rw[Hj]
     ·exact h5.elim
    ·rename_i i0 v0 rows
     split at h5
     ·rename_i ay z m
      cases km:Nat.beq key ay<;>simp only[km,cond_true,cond_false]at h5;cases dk:JJ key tm<;>simp only[dk,cond_true,cond_false]at h5;cases oc:H1 key M<;>simp only[oc,cond_true,cond_false]at h5;cases hj:Nat.beq j 0<;>simp only[hj,cond_true,cond_false]at h5;obtain rfl:=BQ.1 hj;split at h5
      ·rename_i s2 z' es jy
       cases hz:Nat.beq z z'<;>simp only[hz,cond_true,cond_false]at h5;obtain rfl:=BQ.1 hz;rw[OW]at h5;obtain ⟨⟨rfl,rfl⟩,hi,h5⟩:=h5;refine ⟨.dp (.g9 []) (st.own.put s ((st.own s).v7 (σ key 0).2 (some ⟨1,(B5 σ key 0 rows).set i [.row (σ ay 0).1 (σ ay 0).2 z 0 es.length]⟩))),_,_,_,λ C => ?_,h5,rfl,hr.Dl hm (Or.inr ⟨v0,rfl⟩) jy (FD.1 km) dk oc hi⟩;simp only[g7,hr.ev e (by intro e;cases e),EG,hr.ev rfl h0,N2 hc,List.length_map];rw[if_pos uc];simp only[AH.lf,AH.get,hs,cj,BC.g8,List.getElem?_set_self (show i<(B5 σ key 0 rows).length by rw[FA];exact hi),List.map_cons,List.map_nil,List.length_cons,List.length_nil,BA];rw[if_pos (by omega)];simp only[Option.map_some,List.set_set];rfl
      ·exact h5.elim
     ·exact h5.elim
    ·rename_i w rows
     split at h5
     ·rename_i ay t2 z m
      cases km:Nat.beq key ay<;>simp only[km,cond_true,cond_false]at h5;cases hj:Nat.beq j 0<;>simp only[hj,cond_true,cond_false]at h5;obtain rfl:=BQ.1 hj;obtain rfl:=BQ.1 km;obtain ⟨z',es,g0,h5⟩:=h5;cases hz:Nat.beq z z'<;>simp only[hz,cond_true,cond_false]at h5;obtain rfl:=BQ.1 hz;obtain ⟨⟨rfl,hi,hwr⟩,h5⟩:=h5;have w9:BC.g8 σ key (.vw (w.set i t2) rows)=⟨1,(w.map λ t=>((B5 σ key 0 rows)[t]?).getD []).set i [.row (σ key (t2+1)).1 (σ key (t2+1)).2 z 0 es.length]⟩:=by
       simp only[BC.g8];congr 1;apply List.ext_getElem?;intro p;rw[List.getElem?_map];by_cases hp:i=p
       ·subst hp
        rw[List.getElem?_set_self hi,List.getElem?_set_self (by rw[List.length_map];exact hi),Option.map_some,E9,g0];simp
       ·rw[List.getElem?_set_ne hp,List.getElem?_set_ne hp,List.getElem?_map]
      have hv:=hr.view (w:=w.set i t2) hm (Or.inr ⟨w,rfl⟩);have hlen:(w.map λ t=>((B5 σ key 0 rows)[t]?).getD [])[i]? = some ((w.map λ t=>((B5 σ key 0 rows)[t]?).getD [])[i]'(by rw[List.length_map];exact hi)):=zE _;have gl:((w.map λ t=>((B5 σ key 0 rows)[t]?).getD [])[i]'(by rw[List.length_map];exact hi)).length=1:=by
       rw[List.getElem_map];have o7:=hwr w[i] (List.getElem_mem hi);rw[E9,zE o7];simp only[Option.map_some,Option.getD_some];split<;>rfl
      refine ⟨.dp (.g9 []) (st.own.put s ((st.own s).v7 (σ key 0).2 (some (BC.g8 σ key (.vw (w.set i t2) rows))))),_,_,_,λ C => ?_,h5,rfl,hv⟩;rw[w9];simp only[g7,hr.ev e (by intro e;cases e),EG,hr.ev rfl h0,N2 hc,List.length_map];rw[if_pos uc];simp only[AH.lf,AH.get,hs,cj,BC.g8,hlen,List.map_cons,List.map_nil,List.length_cons,List.length_nil,BA];rw[if_pos (by omega)];simp only[Option.map_some];have Hj:splice ((w.map λ t=>((B5 σ key 0 rows)[t]?).getD [])[i]'(by rw[List.length_map];exact hi)) 0 [.row (σ key (t2+1)).1 (σ key (t2+1)).2 z 0 es.length]=[.row (σ key (t2+1)).1 (σ key (t2+1)).2 z 0 es.length]:=by
       simp only[splice,List.take_zero,List.nil_append,List.length_cons,List.length_nil,Nat.zero_add];rw[List.drop_of_length_le (by omega)];rfl
      rw[Hj]
     ·exact h5.elim
   ·rename_i i'
    split at h5
    ·rename_i rows
     cases hd:D9 vs<;>simp only[hd,cond_true,cond_false]at h5;obtain ⟨z,es,g0,cs,g1,g2,g3,h5⟩:=h5;have cj:=hr.sat.g8 key (i'+1) (.rw z es) (by simp [c5,hm,g0]);refine ⟨.dp (.g9 []) (st.own.put (σ key (i'+1)).1 ((st.own (σ key (i'+1)).1).v7 (σ key (i'+1)).2 (some ⟨z,es.set i (splice cs j vs)⟩))),σ,_,_,λ C => ?_,h5,rfl,hr.Oc hm g0 g3⟩;simp only[g7,hr.ev e (by intro e;cases e),EG,hr.ev rfl h0,N2 hc,H4 hd];rw[if_pos uc];simp only[AH.lf,AH.get,cj,BC.g8,g1];rw[if_pos g2];rfl
    ·exact h5.elim
  ·exact h5.elim
 ·exact h.elim
theorem Tr {s z bytes:Nat} {zero:List AV} {a c:AP} (hr:RX σ tm M st) (h:XE L tm M b9 K (.mk s z bytes zero a c)):BT L tm b9 K (.mk s z bytes zero a c) st:=by
 simp only[XE]at h;split at h
 ·rename_i k1 p k2 q e1 e2
  cases hz:Nat.beq zero.length z<;>simp only[hz,cond_true,cond_false]at h;cases hd:D9 zero<;>simp only[hd,cond_true,cond_false]at h;split at h
  ·cases jd:EZ s<;>simp only[jd,cond_true,cond_false]at h
   obtain ⟨⟨g1,g2,g3,g4⟩,h⟩:=h;obtain ⟨k,h1,h2,h3⟩:=HW h;have lu:BC.flat (.mx (List.replicate p.toNat none)):=by
    intro i x hx;have:=List.getElem?_replicate (n:=p.toNat) (a:=(none:Option (Nat × List (List AV)))) (i:=i)
    rw[this]at hx;split at hx<;>cases hx
   have gb:z=1:=(BQ.1 hz).symm;have gy:BC.g8 σ k (.mx (List.replicate p.toNat none))=⟨z,List.replicate p.toNat [.nil]⟩:=by
    simp only[BC.g8,gb];congr 1;have : ∀ (n i:Nat),B5 σ k i (List.replicate n none)=List.replicate n [AV.nil]:=by
     intro n;induction n with
     | zero=>intro i;rfl
     | succ n ih=>intro i;rw[List.replicate_succ,List.replicate_succ,B5,ih]
    exact this _ _
   refine ⟨.new s (BC.g8 σ k (.mx (List.replicate p.toNat none))) (λ t => .row s t z 0 p.toNat),_,_,_,λ C => ?_,h3,?_,hr.jf h1 h2 (.mx _) lu rfl (λ_=>jd)⟩
   ·simp only[g7,hr.ev e1 (by intro e;cases e),hr.ev e2 (by intro e;cases e),G6,gy]
    rw[if_pos ⟨g1,g2,g3,g4,BQ.1 hz⟩]
   ·simp only[BU.res,DS,BS]
  ·cases jd:EZ s<;>simp only[jd,cond_true,cond_false]at h
   obtain ⟨⟨g1,g2,g3,g4⟩,h⟩:=h;obtain ⟨k,h1,h2,h3⟩:=HW h;refine ⟨.new s ⟨z,List.replicate p.toNat zero⟩ (λ t => .row s t z 0 p.toNat),_,_,_,λ C => ?_,h3,?_,hr.jf h1 h2 (.rw z _) trivial rfl (λ_=>jd)⟩
   ·simp only[g7,hr.ev e1 (by intro e;cases e),hr.ev e2 (by intro e;cases e),G6]
    rw[if_pos ⟨g1,g2,g3,g4,BQ.1 hz⟩]
   ·simp only[BU.res,DS,BS]
 ·exact h.elim
theorem pB {v:AV} {K:AV->Prop} (h:f2 v K):v ≠ .any/\BJ σ v=BM σ v/\K v:=by
 cases v<;>simp only[f2,G0]at h<;>first|exact h.elim|exact ⟨(by intro e;cases e),rfl,h⟩
theorem qU : ∀ (vs:List AV) (i:Nat),zz vs i ≠ .any->vs[i]? = some (zz vs i)
 | [],_,h=>absurd rfl h
 | _::_,0,_=>rfl
 | _::r,i+1,h=>qU r i h
theorem Th {x:AP} {i:Nat} (hr:RX σ tm M st) (h:XE L tm M b9 K (.ext x i)):BT L tm b9 K (.ext x i) st:=by
 simp only[XE]at h;split at h
 ·rename_i vs e
  obtain ⟨h1,h2,h3⟩:=pB (σ:=σ) h;refine BT.val hr _ (λ C => ?_) h3;simp only[g7,hr.ev e (by intro e;cases e),IX,List.getElem?_map,qU vs i h1,Option.map_some,h2]
 ·exact h.elim
theorem Tq {x:AP} (hr:RX σ tm M st) (h:XE L tm M b9 K (.len x)):BT L tm b9 K (.len x) st:=by
 simp only[XE]at h;split at h
 ·rename_i q es e
  exact BT.val hr _ (λ C=>by simp only[g7,hr.ev e (by intro e;cases e),HU,OY];rfl) h.h
 ·rename_i e
  exact BT.val hr _ (λ C=>by simp only[g7,hr.ev e (by intro e;cases e),FL,OY];rfl) h
 ·rename_i e
  exact BT.val hr _ (λ C=>by simp only[g7,hr.ev e (by intro e;cases e),DS,OY];rfl) h
 ·exact h.elim
theorem rP {mx:Bool} {k:IntKind} {K:AV->Prop} : ∀ {l:List AV} {a:Int},RP mx k K a l -> ∃ n,KQ mx (.int k a) l=some (.int k n)/\K (.int k n)/\(∀ v∈l,v ≠ .any/\BJ σ v=v)
 | [],a,h=>⟨a,rfl,h,λ v hv=>by cases hv⟩
 | v::r,a,h=>by
  cases v with
  | int k' b =>
   have h:(bif mx then AF (a<b) (b<=a) (RP mx k K b r) (RP mx k K a r) else AF (b<a) (a<=b) (RP mx k K b r) (RP mx k K a r)):=h;have fin : ∀ c:Int,O1 mx (.int k a) (.int k' b)=some (.int k c)->RP mx k K c r -> ∃ n,KQ mx (.int k a) (.int k' b::r)=some (.int k n)/\K (.int k n)/\(∀ v∈AV.int k' b::r,v ≠ .any/\BJ σ v=v):=by
    intro c hc hx;obtain ⟨n,h1,h2,h3⟩:=rP hx;refine ⟨n,by simp only[KQ,hc,h1],h2,λ v hv => ?_⟩;rcases List.mem_cons.1 hv with rfl|hv
    ·exact ⟨(by intro e;cases e),rfl⟩
    ·exact h3 v hv
   cases mx
   ·simp only[cond_false]at h
    by_cases hc:b<a
    ·exact fin b (by simp [O1,hc]) (h.1 hc)
    ·exact fin a (by simp [O1,hc]) (h.2 (by omega))
   ·simp only[cond_true]at h
    by_cases hc:a<b
    ·exact fin b (by simp [O1,hc]) (h.1 hc)
    ·exact fin a (by simp [O1,hc]) (h.2 (by omega))
  | _=>exact (h:False).elim
theorem Tt {mx:Bool} {xs:List AP} (hr:RX σ tm M st) (h:XE L tm M b9 K (.mm mx xs)):BT L tm b9 K (.mm mx xs) st:=by
 simp only[XE]at h;split at h
 ·rename_i k a r e
  obtain ⟨n,h1,h2,h3⟩:=rP (σ:=σ) h;refine BT.val hr (.int k n) (λ C => ?_) h2;have hx : ∀ v∈PT tm xs,v ≠ .any:=by
   rw[e];intro v hv;rcases List.mem_cons.1 hv with rfl|hv
   ·intro e;cases e
   ·exact (h3 v hv).1
  have hm:(PT tm xs).map (BJ σ) = .int k a::r:=by
   rw[e,List.map_cons];congr 1;conv=>rhs;rw[<-List.map_id r]
   exact List.map_congr_left λ v hv=>(h3 v hv).2
  simp only[g7];rw[show xs.map st.ev = .int k a::r from (evL hr hx).trans hm];simp only[h1,Option.map_some,G6]
 ·exact h.elim
theorem Aga (hr:RX σ tm M st) {k t:Nat} {K:Nat->List (List AV)->Prop} (h:gU M k t K) : ∃ z es,(st.own (σ k t).1).g8 (σ k t).2=some ⟨z,es⟩/\K z es:=by
 unfold gU at h;split at h
 ·rename_i s c hm
  split at h
  ·split at h
   ·exact ⟨_,_,hr.sat.g8 _ _ _ (EE hm),h⟩
   ·exact h.elim
  ·rename_i i
   split at h
   ·rename_i rows
    obtain ⟨z,es,g,h⟩:=h;exact ⟨z,es,hr.sat.g8 k (i+1) (.rw z es) (by simp [c5,hm,g]),h⟩
   ·exact h.elim
 ·exact h.elim
theorem Ahn {own n0:AH} {s t i j:Nat} {vs:List AV} (h:own.lf s t i j vs=some n0):own.put s (n0 s)=n0:=by
 unfold AH.lf at h;cases hg:own.get s t with
 | none=>simp [hg]at h
 | some b =>
  simp only[hg]at h;cases he:b.es[i]? with
  | none=>simp [he]at h
  | some cs =>
   simp only[he]at h;split at h
   ·obtain rfl:=Option.some.inj h
    rw[AH.k8]
   ·cases h
theorem Ua {s n:Nat} {x v:AP} (hr:RX σ tm M st) (h:XE L tm M b9 K (.ou s n x v)):BT L tm b9 K (.ou s n x v) st:=by
 simp only[XE]at h;split at h
 ·rename_i key i j e1
  split at h
  ·rename_i s' c hm
   cases hb:Nat.beq s' s<;>simp only[hb,cond_true,cond_false]at h;obtain rfl:=BQ.1 hb;have gu:=hr.sat.site _ _ _ hm;obtain ⟨E,σ',v',M',h1,h2,h3,h4⟩:=kD (b9:=b9) (L:=L) hr (show XE L tm M b9 K (.st n x v) from h);have bz:=hr.ev e1 (by intro e;cases e);rw[EG,gu]at bz;have key : ∀ vs,cellsOf (st.ev v)=some vs->vs.length=n -> ∃ o',st.own.lf s' (σ key 0).2 i j vs=some o'/\E = .dp (.g9 []) o':=λ vs jb hn=>by
    have:=h1 0
    simp only[g7,bz,jb]at this;rw[if_pos hn,Option.map_eq_some_iff]at this;obtain ⟨o',a1,a2⟩:=this;exact ⟨o',a1,a2.symm⟩
   cases jb:cellsOf (st.ev v) with
   | none=>have:=h1 0;simp [g7,bz,jb]at this
   | some vs =>
    by_cases hn:vs.length=n
    ·obtain ⟨o',a1,rfl⟩:=key vs jb hn
     refine ⟨.v7 s' (o' s'),σ',v',M',λ C => ?_,h2,h3,?_⟩
     ·simp only[g7,bz,jb]
      rw[if_pos ⟨trivial,hn⟩,a1];rfl
     ·have e2:(BU.res st.own (.v7 s' (o' s'))).2=o':=Ahn a1
      rw[e2];exact h4
    ·have:=h1 0
     simp only[g7,bz,jb]at this;rw[if_neg hn]at this;cases this
  ·exact h.elim
 ·exact h.elim
theorem Tn {ne:Bool} {x:AP} (hr:RX σ tm M st) (h:XE L tm M b9 K (.ug ne x)):BT L tm b9 K (.ug ne x) st:=by
 simp only[XE]at h;split at h
 ·rename_i e1
  rw[PU]at h;exact BT.val hr _ (λ C=>by simp only[g7,hr.ev e1 (by intro e;cases e),FL,G5]) h
 ·rename_i b e1
  rw[PU]at h;exact BT.val hr _ (λ C=>by simp only[g7,hr.ev e1 (by intro e;cases e),Agb,G5]) h
 ·rename_i q es e1
  obtain ⟨h0,h⟩:=h;rw[PU]at h;cases es with
  | nil=>exact absurd rfl h0
  | cons e es=>exact BT.val hr _ (λ C=>by simp only[g7,hr.ev e1 (by intro e;cases e),HU,G5]) h
 ·rename_i s t z o n e1
  obtain ⟨h0,h⟩:=h;rw[PU]at h;cases n with
  | zero=>exact absurd h0 (by omega)
  | succ n=>exact BT.val hr _ (λ C=>by simp only[g7,hr.ev e1 (by intro e;cases e),DS,G5]) h
 ·exact h.elim
theorem Tv {x:AP} (hr:RX σ tm M st) (h:XE L tm M b9 K (.nm x)):BT L tm b9 K (.nm x) st:=by
 simp only[XE]at h;split at h
 ·rename_i key t i j e
  exact BT.val hr _ (λ C=>by simp only[g7,hr.ev e (by intro e;cases e),EG]) h
 ·exact h.elim
theorem Tf {x:AP} (hr:RX σ tm M st) (h:XE L tm M b9 K (.gd x)):BT L tm b9 K (.gd x) st:=by
 simp only[XE]at h;split at h
 ·rename_i e
  exact BT.val hr _ (λ C=>by simp only[g7,hr.ev e (by intro e;cases e),FL];rfl) h
 ·exact h.elim
theorem zY {s z bytes:Nat} {x y:AP} (hr:RX σ tm M st) (h:XE L tm M b9 K (.oy s z bytes x y)):BT L tm b9 K (.oy s z bytes x y) st:=by
 simp only[XE]at h;split at h
 ·rename_i k n e1 e2
  cases jd:EZ s<;>simp only[jd,cond_true,cond_false]at h;obtain ⟨⟨g1,g2,g3⟩,h⟩:=h;obtain ⟨k,h1,h2,h3⟩:=HW h;refine ⟨.new s ⟨z,[]⟩ (λ t => .row s t z 0 n.toNat),_,_,_,λ C => ?_,h3,?_,hr.jf h1 h2 (.rw z []) trivial rfl (λ_=>jd)⟩
  ·simp only[g7,hr.ev e1 (by intro e;cases e),hr.ev e2 (by intro e;cases e),G6,FL]
   rw[if_pos ⟨g1,g2,g3⟩]
  ·simp only[BU.res,DS,BS]
 ·exact h.elim
theorem Tx {tb:List Nat} {x:AP} (hr:RX σ tm M st) (h:XE L tm M b9 K (.iw tb x)):BT L tm b9 K (.iw tb x) st:=by
 simp only[XE]at h;split at h
 ·rename_i k n e1
  obtain ⟨h0,v,h1,h2⟩:=h;exact BT.val hr _ (λ C=>by simp only[g7,hr.ev e1 (by intro e;cases e),G6,h1];rw[if_pos h0]) h2
 ·exact h.elim
theorem Zj {v:AV} {K:AV->Prop} (h:fF v K):v ≠ .any/\GS (BJ σ v)=some (BA σ v)/\K v:=by
 cases v<;>first|exact (h:False).elim|exact ⟨(by intro e;cases e),rfl,h⟩
theorem sC (hr:RX σ tm M st) : ∀ {l:List AP} {K:List AV->Prop},fY tm l K -> ∃ cs,l.mapM (λ x=>GS (st.ev x))=some (cs.map (BA σ))/\K cs
 | [],K,h=>⟨[],rfl,h⟩
 | x::r,K,h=>by
  obtain ⟨h0,hc,h⟩:=Zj (σ:=σ) (show fF (ex tm x) λ v=>fY tm r λ cs=>K (v::cs) from h);obtain ⟨cs,h1,h2⟩:=sC hr h;refine ⟨ex tm x::cs,?_,h2⟩;rw[List.mapM_cons,h1,hr.ev rfl h0,hc];rfl
theorem Ts {p:Bool} {f:Nat} {xs:List AP} (hr:RX σ tm M st) (h:XE L tm M b9 K (.rj p f xs)):BT L tm b9 K (.rj p f xs) st:=by
 simp only[XE]at h;obtain ⟨cs,h1,h2⟩:=sC hr h;exact BT.val hr _ (λ C=>by simp only[g7,h1,Option.map_some,ZW,List.isEmpty_map];rfl) h2
theorem Xd (hr:RX σ tm M st) {v:AV} {K:List (List AV)->Prop} (h:YC M v K):v ≠ .any /\ ∃ es,EM st.own (BJ σ v)=some es/\K es:=by
 cases v with
 | sl q es=>exact ⟨(by intro e;cases e),_,rfl,h⟩
 | nil=>exact ⟨(by intro e;cases e),_,rfl,h⟩
 | dm v =>
  cases v with
  | bool b=>exact ⟨(by intro e;cases e),_,rfl,h⟩
  | _=>exact (h:False).elim
 | row key t z off len =>
  simp only[YC]at h;obtain ⟨z',es,g,h⟩:=Aga hr h;cases hz:Nat.beq z z'<;>simp only[hz,cond_true,cond_false]at h;obtain rfl:=BQ.1 hz;refine ⟨(by intro e;cases e),_,?_,h.2⟩;simp only[DS,EM,AH.get,g];rw[if_pos ⟨h.1,trivial⟩]
 | _=>exact (h:False).elim
theorem fZ (hr:RX σ tm M st) {o:Option AP} {K:Option Int->Prop} (h:Y8 tm o K):(o=none/\K none) \/ ∃ x k n,o=some x/\st.ev x = .int k n/\K (some n):=by
 unfold Y8 at h;split at h
 ·exact Or.inl ⟨rfl,h⟩
 ·split at h
  ·rename_i e
   exact Or.inr ⟨_,_,_,rfl,hr.ev e (by intro e;cases e),h⟩
  ·exact h.elim
theorem Tz {z:Nat} {x:AP} {lo hi:Option AP} (hr:RX σ tm M st) (h:XE L tm M b9 K (.jg z x lo hi)):BT L tm b9 K (.jg z x lo hi) st:=by
 simp only[XE]at h;have go : ∀ (a b:Option Int),(match ex tm x with
   | .sl l es=>CR z es a b λ es=>K (.sl l es) M
   | .row key t z' off len=>bif Nat.beq z' z then B1 a b len λ a h=>K (.row key t z (off+a) (h-a)) M else False
   | .nil=>(match a,b with
    | none,none=>K .nil M
    | some a,none=>AM (a=0) (K .nil M)
    | none,some h=>AM (h=0) (K .nil M)
    | some a,some h=>AM (a=0/\h=0) (K .nil M))
   | _=>False)->(lo=none/\a=none \/ ∃ y k n,lo=some y/\st.ev y = .int k n/\a=some n)->(hi=none/\b=none \/ ∃ y k n,hi=some y/\st.ev y = .int k n/\b=some n)->BT L tm b9 K (.jg z x lo hi) st:=by
  intro a b h ha hb;split at h
  ·rename_i q es e
   obtain ⟨g1,a',h',g2,g3,g4,h⟩:=h;refine BT.val hr _ (λ C => ?_) h;rcases ha with ⟨rfl,rfl⟩|⟨y,k,n,rfl,e1,rfl⟩<;>rcases hb with ⟨rfl,rfl⟩|⟨y',k',n',rfl,e2,rfl⟩<;>try simp only at g2 g3<;>simp only[g7,hr.ev e (by intro e;cases e),HU, *]<;>simp_all
  ·rename_i key t z' off len e
   cases hz:Nat.beq z' z<;>simp only[hz,cond_true,cond_false]at h;obtain rfl:=BQ.1 hz;obtain ⟨a',h',g2,g3,g4,h⟩:=h;refine BT.val hr _ (λ C => ?_) h;rcases ha with ⟨rfl,rfl⟩|⟨y,k,n,rfl,e1,rfl⟩<;>rcases hb with ⟨rfl,rfl⟩|⟨y',k',n',rfl,e2,rfl⟩<;>try simp only at g2 g3<;>simp only[g7,hr.ev e (by intro e;cases e),DS, *]<;>simp_all
  ·rename_i e
   rcases ha with ⟨rfl,rfl⟩|⟨y,k,n,rfl,e1,rfl⟩<;>rcases hb with ⟨rfl,rfl⟩|⟨y',k',n',rfl,e2,rfl⟩<;>simp only at h
   ·exact BT.val hr .nil (λ C=>by simp only[g7,hr.ev e (by intro e;cases e),FL]) h
   ·exact BT.val hr .nil (λ C=>by simp only[g7,hr.ev e (by intro e;cases e),FL,e2,h.1,if_true]) h.2
   ·exact BT.val hr .nil (λ C=>by simp only[g7,hr.ev e (by intro e;cases e),FL,e1,h.1,if_true]) h.2
   ·exact BT.val hr .nil (λ C=>by simp only[g7,hr.ev e (by intro e;cases e),FL,e1,e2,h.1.1,h.1.2,if_true]) h.2
  ·exact h.elim
 rcases fZ hr h with ⟨h1,h⟩|⟨y,k,n,h1,h2,h⟩
 ·rcases fZ hr h with ⟨g1,h⟩|⟨y,k,n,g1,g2,h⟩
  ·exact go _ _ h (Or.inl ⟨h1,rfl⟩) (Or.inl ⟨g1,rfl⟩)
  ·exact go _ _ h (Or.inl ⟨h1,rfl⟩) (Or.inr ⟨_,_,_,g1,g2,rfl⟩)
 ·rcases fZ hr h with ⟨g1,h⟩|⟨y',k',n',g1,g2,h⟩
  ·exact go _ _ h (Or.inr ⟨_,_,_,h1,h2,rfl⟩) (Or.inl ⟨g1,rfl⟩)
  ·exact go _ _ h (Or.inr ⟨_,_,_,h1,h2,rfl⟩) (Or.inr ⟨_,_,_,g1,g2,rfl⟩)
theorem gR {s key:Nat} : ∀ {M:Mem},GU s M=false->GU s (w3 key M)=false
 | [],_=>rfl
 | (i,s0,c0)::r,h=>by
  simp only[GU]at h;cases q0:Nat.beq s i<;>simp only[q0,cond_true,cond_false]at h
  ·cases q1:HS s c0<;>simp only[q1,cond_true,cond_false]at h
   ·simp only[w3]
    cases Nat.beq key i
    ·simp only[cond_false,GU,q0,q1,gR h]
    ·simp only[cond_true,gR h]
   ·cases h
  ·cases h
theorem zX {s z bytes:Nat} {x y:AP} (hr:RX σ tm M st) (h:YC M (ex tm y) λ ys=>match ex tm x with
   | .row key 0 z' off len=>bif Nat.beq off 0 then bif Nat.beq z' z then (match c8 M key with
    | some (s',.rw np es)=>bif Nat.beq np z then fM (w3 key M) λ M'=>(B6 es len ys z bytes λ es' n=>GN s tm M λ k=>K (.row k 0 z 0 n) ((k,s',.rw z es')::M')) else False
    | _=>False) else False else False
   | .row key (i+1) z' off len=>bif Nat.beq off 0 then bif Nat.beq z' z then (match c8 M key with
    | some (sk,.mx rows)=>fM (w3 key M) λ M'=>BH rows i λ np es=>bif Nat.beq np z then (B6 es len ys z bytes λ es' n => ∀ s' v,GN s tm M λ k=>K (.row k 0 z 0 n) ((k,s',.rw z es')::(key,sk,.hx i v (rows.set i none))::M')) else False
    | _=>False) else False else False
   | .nil=>bif EZ s then CT ys z bytes λ es n=>GN s tm M λ k=>K (.row k 0 z 0 n) ((k,s,.rw z es)::M) else False
   | _=>False):BT L tm b9 K (.app s z bytes x y) st:=by
 obtain ⟨h0,ys,hy,h⟩:=Xd hr h;have Hr:EM st.own (st.ev y)=some ys:=by rw[hr.ev rfl h0];exact hy
 split at h
 ·rename_i key z' off len e
  cases ho:Nat.beq off 0<;>simp only[ho,cond_true,cond_false]at h;cases hz:Nat.beq z' z<;>simp only[hz,cond_true,cond_false]at h;obtain rfl:=BQ.1 ho;obtain rfl:=BQ.1 hz;split at h
  ·rename_i s' np es hm
   cases tj:Nat.beq np z'<;>simp only[tj,cond_true,cond_false]at h;obtain rfl:=BQ.1 tj;rw[OW]at h;obtain ⟨g1,g2,g3,g4,h⟩:=h;obtain ⟨k,h1,h2,h3⟩:=HW h;have hs:=hr.sat.site _ _ _ hm;have cj:=hr.sat.g8 _ _ _ (EE hm);have hn:=(hr.kill hm).jf (s:=k) (q:=s') (gR h1) h2 (.rw np (es.take len++ys)) trivial rfl (λ_=>by have:=hr.sat.low _ _ _ (EE hm) rfl;rwa [hs]at this);have Jw:(st.own.put s' ((st.own s').v7 (σ key 0).2 none)).j6 s'=st.own.j6 s':=by simp [AH.j6,AH.k8,CB.v7]
   simp only[AH.k8,AH.tl,Jw]at hn;refine ⟨.dp (.row s' (st.own.j6 s') np 0 (len+ys.length)) (st.own.put s' (((st.own s').v7 (σ key 0).2 none).new ⟨np,es.take len++ys⟩)),_,_,_,λ C => ?_,h3,?_,hn⟩
   ·rw[hs]at cj
    simp only[g7,Hr,hr.ev e (by intro e;cases e),DS,AH.get,hs,cj,BC.g8];rw[if_pos g2,if_pos ⟨trivial,trivial,g1,g3,g4⟩]
   ·simp only[BU.res,DS,BS]
  ·exact h.elim
 ·rename_i key i z' off len e
  cases ho:Nat.beq off 0<;>simp only[ho,cond_true,cond_false]at h;cases hz:Nat.beq z' z<;>simp only[hz,cond_true,cond_false]at h;obtain rfl:=BQ.1 ho;obtain rfl:=BQ.1 hz;split at h
  ·rename_i sk rows hm
   rw[OW]at h;obtain ⟨np,es,g0,h⟩:=h;cases tj:Nat.beq np z'<;>simp only[tj,cond_true,cond_false]at h;obtain rfl:=BQ.1 tj;obtain ⟨g1,g2,g3,g4,h⟩:=h;have h:=h (σ key (i+1)).1 (.row (σ key (i+1)).1 (σ key (i+1)).2 np 0 es.length);obtain ⟨k,h1,h2,h3⟩:=HW h;have cj:=hr.sat.g8 key (i+1) (.rw np es) (by simp [c5,hm,g0]);have hn:=hr.Jp (s:=k) (es':=es.take len++ys) hm g0 h1 h2;refine ⟨.dp (.row (σ key (i+1)).1 (st.own.j6 (σ key (i+1)).1) np 0 (len+ys.length)) (st.own.put (σ key (i+1)).1 (((st.own (σ key (i+1)).1).v7 (σ key (i+1)).2 none).new ⟨np,es.take len++ys⟩)),_,_,_,λ C => ?_,h3,?_,hn⟩
   ·simp only[g7,Hr,hr.ev e (by intro e;cases e),DS,AH.get,cj,BC.g8]
    rw[if_pos g2,if_pos ⟨trivial,trivial,g1,g3,g4⟩]
   ·simp only[BU.res,DS,BS]
  ·exact h.elim
 ·rename_i e
  cases jd:EZ s<;>simp only[jd,cond_true,cond_false]at h;obtain ⟨g2,g3,g4,h⟩:=h;obtain ⟨k,h1,h2,h3⟩:=HW h;refine ⟨.dp (.row s (st.own.j6 s) z 0 ys.length) (st.own.put s ((st.own s).new ⟨z,ys⟩)),_,_,_,λ C => ?_,h3,?_,hr.jf h1 h2 (.rw z ys) trivial rfl (λ_=>jd)⟩
  ·simp only[g7,Hr,hr.ev e (by intro e;cases e),FL]
   rw[if_pos g2,if_pos ⟨g3,g4⟩]
  ·simp only[BU.res,DS,BS]
 ·exact h.elim
theorem Si {v:AV} {ky k2 z n:Nat} (h:QY M v=some (ky,some (k2,z,n))):v = .row ky 0 1 0 1 /\ ∃ sy,c8 M ky=some (sy,.bs 1 [[.row k2 0 z 0 n]]):=by
 unfold QY at h;split at h
 ·split at h
  ·rename_i hm
   simp only[Option.some.injEq,Prod.mk.injEq]at h;obtain ⟨rfl,rfl,rfl,rfl⟩:=h;exact ⟨rfl,_,hm⟩
  ·simp at h
  ·cases h
 ·cases h
theorem Sh {v:AV} {ky:Nat} (h:QY M v=some (ky,none)):v = .row ky 0 1 0 1 /\ ∃ sy,c8 M ky=some (sy,.rw 1 [[.nil]]):=by
 unfold QY at h;split at h
 ·split at h
  ·simp at h
  ·rename_i hm
   simp only[Option.some.injEq,Prod.mk.injEq,and_true]at h;subst h;exact ⟨rfl,_,hm⟩
  ·cases h
 ·cases h
theorem zW {s z bytes:Nat} {x y:AP} (hr:RX σ tm M st) (h:XE L tm M b9 K (.app s z bytes x y)):BT L tm b9 K (.app s z bytes x y) st:=by
 simp only[XE]at h;cases hV:Nat.ble 800000 s<;>simp only[hV,cond_true,cond_false]at h;split at h
 ·rename_i ky k2 z2 n2 Km
  obtain ⟨ri,sy,zj⟩:=Si Km;have nj:=hr.sat.site _ _ _ zj;have tz:=hr.sat.g8 _ _ _ (EE zj);rw[nj]at tz
  have Hs:EM st.own (st.ev y)=some [[.row (σ k2 0).1 (σ k2 0).2 z2 0 n2]]:=by
   rw[hr.ev ri (by intro e;cases e)];simp only[DS,EM,AH.get,nj,tz,BC.g8,BA,List.map_cons,List.map_nil,List.length_cons,List.length_nil];simp
  split at h
  ·rename_i key z' off len e
   cases ho:Nat.beq off 0<;>simp only[ho,cond_true,cond_false]at h;cases hz:Nat.beq z' 1<;>simp only[hz,cond_true,cond_false]at h;cases gb:Nat.beq z 1<;>simp only[gb,cond_true,cond_false]at h;cases ga:Nat.beq key k2<;>simp only[ga,cond_true,cond_false]at h;cases Lv:Nat.beq key ky<;>simp only[Lv,cond_true,cond_false]at h;cases hk3:Nat.beq k2 ky<;>simp only[hk3,cond_true,cond_false]at h;obtain rfl:=BQ.1 ho;obtain rfl:=BQ.1 hz;obtain rfl:=BQ.1 gb;split at h
   ·rename_i s2 z3 es jy
    cases Ht:Nat.beq z2 z3<;>simp only[Ht,cond_true,cond_false]at h;obtain rfl:=BQ.1 Ht;split at h
    ·rename_i s' rows hm
     rw[OW]at h;obtain ⟨rfl,rfl,g3,g4,h⟩:=h;obtain ⟨k,h1,h2,h3⟩:=HW h;have hs:=hr.sat.site _ _ _ hm;have cj:=hr.sat.g8 _ _ _ (EE hm);rw[hs]at cj;refine ⟨.dp (.row s' (st.own.j6 s') 1 0 (rows.length+1)) (st.own.put s' (((st.own s').v7 (σ key 0).2 none).new ⟨1,B5 σ key 0 rows++[[.row (σ k2 0).1 (σ k2 0).2 z2 0 es.length]]⟩)),_,_,_,λ C => ?_,h3,?_,hr.Jq (ky:=ky) hm jy (FD.1 ga) h1 h2⟩
     ·simp only[g7,Hs,hr.ev e (by intro e;cases e),DS,AH.get,hs,cj,BC.g8]
      rw[if_pos (by simp),if_pos ⟨trivial,trivial,by rw[FA];exact Nat.le_refl _,by simpa using g3,by simpa using g4⟩];rw[zT (by rw[FA];exact Nat.le_refl _)];rfl
     ·simp only[BU.res,DS,BS]
    ·exact h.elim
   ·exact h.elim
  ·rename_i e
   cases jd:EZ s<;>simp only[jd,cond_true,cond_false]at h;cases gb:Nat.beq z 1<;>simp only[gb,cond_true,cond_false]at h;obtain rfl:=BQ.1 gb;split at h
   ·rename_i s2 z3 es jy
    cases Ht:Nat.beq z2 z3<;>simp only[Ht,cond_true,cond_false]at h;obtain rfl:=BQ.1 Ht;rw[OW]at h;obtain ⟨⟨rfl,g3⟩,h⟩:=h;obtain ⟨k,h1,h2,h3⟩:=HW h;obtain ⟨σ',q1,q2⟩:=hr.Oa (q:=s) jy (λ e=>(RY h1 _ _ _ jy).1 e.symm) h1 h2 jd;refine ⟨.dp (.row s (st.own.j6 s) 1 0 1) (st.own.put s ((st.own s).new ⟨1,[[.row (σ k2 0).1 (σ k2 0).2 z2 0 es.length]]⟩)),σ',_,_,λ C => ?_,h3,?_,q2⟩
    ·simp only[g7,Hs,hr.ev e (by intro e;cases e),FL]
     rw[if_pos (by simp),if_pos ⟨by simpa [D5] using g3,by simp⟩];rfl
    ·simp only[BU.res,DS,q1]
   ·exact h.elim
  ·exact h.elim
 ·rename_i ky Km
  obtain ⟨ri,sy,zj⟩:=Sh Km;have nj:=hr.sat.site _ _ _ zj;have tz:=hr.sat.g8 _ _ _ (EE zj);rw[nj]at tz
  have Hs:EM st.own (st.ev y)=some [[.nil]]:=by
   rw[hr.ev ri (by intro e;cases e)];simp only[DS,EM,AH.get,nj,tz,BC.g8,List.length_cons,List.length_nil];simp
  split at h
  ·rename_i key z' off len e
   cases ho:Nat.beq off 0<;>simp only[ho,cond_true,cond_false]at h;cases hz:Nat.beq z' 1<;>simp only[hz,cond_true,cond_false]at h;cases gb:Nat.beq z 1<;>simp only[gb,cond_true,cond_false]at h;cases Lv:Nat.beq key ky<;>simp only[Lv,cond_true,cond_false]at h;obtain rfl:=BQ.1 ho;obtain rfl:=BQ.1 hz;obtain rfl:=BQ.1 gb;split at h
   ·rename_i s' rows hm
    rw[OW]at h;obtain ⟨rfl,g3,g4,h⟩:=h;obtain ⟨k,h1,h2,h3⟩:=HW h;have hs:=hr.sat.site _ _ _ hm;have cj:=hr.sat.g8 _ _ _ (EE hm);rw[hs]at cj;refine ⟨.dp (.row s' (st.own.j6 s') 1 0 (rows.length+1)) (st.own.put s' (((st.own s').v7 (σ key 0).2 none).new ⟨1,B5 σ key 0 rows++[[.nil]]⟩)),_,_,_,λ C => ?_,h3,?_,hr.Jr hm h1 h2⟩
    ·simp only[g7,Hs,hr.ev e (by intro e;cases e),DS,AH.get,hs,cj,BC.g8]
     rw[if_pos (by simp),if_pos ⟨trivial,trivial,by rw[FA];exact Nat.le_refl _,by simpa using g3,by simpa using g4⟩];rw[zT (by rw[FA];exact Nat.le_refl _)];rfl
    ·simp only[BU.res,DS,BS]
   ·exact h.elim
  ·rename_i e
   cases jd:EZ s<;>simp only[jd,cond_true,cond_false]at h;cases gb:Nat.beq z 1<;>simp only[gb,cond_true,cond_false]at h;obtain rfl:=BQ.1 gb;obtain ⟨g3,h⟩:=h;obtain ⟨k,h1,h2,h3⟩:=HW h;have lu:BC.flat (.mx [none]):=by
    intro i x hx;cases i with
    | zero=>simp at hx
    | succ i=>simp at hx
   refine ⟨.dp (.row s (st.own.j6 s) 1 0 1) (st.own.put s ((st.own s).new ⟨1,[[.nil]]⟩)),_,_,_,λ C => ?_,h3,?_,hr.jf h1 h2 (.mx [none]) lu rfl (λ_=>jd)⟩
   ·simp only[g7,Hs,hr.ev e (by intro e;cases e),FL]
    rw[if_pos (by simp),if_pos ⟨by simpa [D5] using g3,by simp⟩];rfl
   ·simp only[BU.res,DS,BS]
  ·exact h.elim
 ·exact zX hr h
end
end Go.g6
