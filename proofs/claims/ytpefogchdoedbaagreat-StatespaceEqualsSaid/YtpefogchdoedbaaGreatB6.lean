/-
  The walk by computation is sound.
-/
import Derived.Test.YtpefogchdoedbaaGreatB5
set_option linter.unusedSimpArgs false
set_option linter.unusedVariables false
set_option linter.unnecessarySimpa false
namespace Go.Eng
theorem BP {a b:Nat}:Nat.beq a b=true↔a=b:=⟨Nat.eq_of_beq_eq_true,fun h=>by subst h;simp⟩
theorem FA {a b:Nat}:Nat.beq a b=false↔a≠b:=by
 constructor
 ·exact Nat.ne_of_beq_eq_false
 ·intro h
  cases e:Nat.beq a b
  ·rfl
  ·exact absurd (Nat.eq_of_beq_eq_true e) h
theorem L7 (j:Nat) : ∀ tm:Tm,tg tm j=tget tm j
 | []=>rfl
 | (i,v)::r=>by
  simp only[tg,VF,L7 j r]
  cases e:Nat.beq j i
  ·rw[if_neg (FA.1 e)];rfl
  ·rw[if_pos (BP.1 e)];rfl
theorem GT : ∀ (l:List AV) (K:List AV->Prop),fL l K=K l
 | [],_=>rfl
 | v::r,K=>by rw[fL,GT r]
theorem R7 : ∀ (l:Tm) (K:Tm->Prop),fT l K=K l
 | [],_=>rfl
 | (i,v)::r,K=>by rw[fT,R7 r]
theorem MO : ∀ (l:Mem) (K:Mem->Prop),fM l K=K l
 | [],_=>rfl
 | (k,s,c)::r,K=>by rw[fM,MO r]
theorem AbM (n:Nat) (K:Nat->Prop):fN n K=K n:=by cases n<;>rfl
theorem YX (m i:Nat):bit m i=m.testBit i:=by
 have h:Nat.land (Nat.shiftRight m i) 1=(m >>> i)%2:=Nat.and_one_is_mod (m >>> i)
 have ht:m.testBit i=decide ((m >>> i)%2=1):=by
  rw[Nat.testBit,Nat.and_comm,Nat.and_one_is_mod]
  rcases Nat.mod_two_eq_zero_or_one (m >>> i) with e|e<;>simp [e]
 unfold bit
 rw[h,ht]
 rcases Nat.mod_two_eq_zero_or_one (m >>> i) with e|e<;>rw[e]<;>rfl
theorem fW (m i j:Nat):bit (Nat.lor m (Nat.shiftLeft 1 i)) j=(bit m j||decide (j=i)):=by
 rw[YX,YX]
 show (m ||| (1 <<< i)).testBit j=_
 rw[Nat.testBit_or,Nat.testBit_shiftLeft]
 congr 1
 by_cases h:j=i
 ·subst h;simp
 ·by_cases h2:j≥i
  ·obtain ⟨d,rfl⟩ : ∃ d,j=i+d+1:=⟨j-i-1,by omega⟩
   rw[show i+d+1-i=d+1 by omega,Nat.testBit_succ]
   simp [h]
  ·simp [h2,h]
theorem fU : ∀ (ts:List Nat) (m j:Nat),bit (mask m ts) j=(bit m j||ts.contains j)
 | [],m,j=>by simp [mask]
 | t::ts,m,j=>by
  rw[mask,fU ts,fW,List.contains_cons,Bool.or_assoc]
  congr 2
theorem YY (j:Nat):bit 0 j=false:=by rw[YX];simp
theorem VD (j:Nat) : ∀ (tm:Tm) (m:Nat),tg (cnm m tm) j=bif bit m j then .any else tg tm j
 | [],m=>by cases bit m j<;>rfl
 | (i,v)::r,m=>by
  simp only[cnm]
  cases hb:bit m i
  ·simp only[cond_false,tg,VD j r,fW]
   cases hj:Nat.beq j i
   ·have:decide (j=i)=false:=by simpa using FA.1 hj
    simp only[cond_false,this,Bool.or_false]
   ·obtain rfl:=BP.1 hj
    simp only[cond_true,hb,cond_false]
  ·simp only[cond_true,tg,VD j r]
   cases hj:Nat.beq j i
   ·rfl
   ·obtain rfl:=BP.1 hj
    simp only[hb,cond_true]
theorem WW {v:AV} {K:AV->Prop} (h:fV v K):v ≠ .any/\K v:=by
 cases v<;>simp only[fV,GT]at h<;>first|exact h.elim|exact ⟨(by intro e;cases e),h⟩
theorem WU {v:AV} {K:List AV->Prop} (h:fC v K):v ≠ .any /\ ∃ cs,cellsOf v=some cs/\K cs:=by
 cases v<;>simp only[fC,fV,GT]at h<;>first|exact h.elim|exact ⟨(by intro e;cases e),_,rfl,h⟩
theorem OL (b:Bool) (K:Bool->Prop):fB b K=K b:=by cases b<;>rfl
theorem sD {k:Nat} {tm:Tm} {M:Mem} (h:used k tm M=false):GK k M=false/\HR k tm=false:=by
 unfold used at h
 cases h1:GK k M<;>simp only[h1,cond_true,cond_false]at h
 ·exact ⟨rfl,h⟩
 ·cases h
theorem pE {tm:Tm} {M:Mem} {K:Nat->Prop} : ∀ {l:List Nat},XH tm M l K -> ∃ k,GK k M=false/\HR k tm=false/\K k
 | [],h=>h.elim
 | k::r,h=>by
  simp only[XH]at h
  cases h0:used k tm M<;>simp only[h0,cond_true,cond_false]at h
  ·exact ⟨k,(sD h0).1,(sD h0).2,h⟩
  ·exact pE h
theorem G2 {s:Nat} {tm:Tm} {M:Mem} {K:Nat->Prop} (h:FP s tm M K) : ∃ k,GK k M=false/\HR k tm=false/\K k:=pE h
section
variable {σ:FJ}
def C2 (σ:FJ) (k:Nat) (f:Nat->Nat × Nat):FJ:=fun j t=>if j=k then f t else σ j t
theorem CT {k j:Nat} (f:Nat->Nat × Nat) (h:j≠k):C2 σ k f j=σ j:=by funext t;simp [C2,h]
theorem BT (k:Nat) (f:Nat->Nat × Nat):C2 σ k f k=f:=by funext t;simp [C2]
theorem dM {k:Nat} {p:Nat->Nat × Nat} {v:AV} (h:NF k v=false):BD (C2 σ k p) v=BD σ v:=by
 cases v with
 | row j t z o n=>simp only[NF]at h;simp only[BD,CT p (FA.1 h)]
 | ptr j t a b=>simp only[NF]at h;simp only[BD,CT p (FA.1 h)]
 | _=>rfl
theorem SS {k:Nat} {p:Nat->Nat × Nat} : ∀ {cs:List AV},IB k cs=false->cs.map (BD (C2 σ k p))=cs.map (BD σ)
 | [],_=>rfl
 | c::r,h=>by
  simp only[IB]at h
  cases h1:NF k c<;>simp only[h1,cond_true,cond_false]at h
  ·rw[List.map_cons,List.map_cons,dM h1,SS h]
  ·cases h
theorem dK {k:Nat} {p:Nat->Nat × Nat} : ∀ {es:List (List AV)},PK k es=false->(es.map fun cs=>cs.map (BD (C2 σ k p)))=es.map fun cs=>cs.map (BD σ)
 | [],_=>rfl
 | c::r,h=>by
  simp only[PK]at h
  cases h1:IB k c<;>simp only[h1,cond_true,cond_false]at h
  ·rw[List.map_cons,List.map_cons,SS h1,dK h]
  ·cases h
theorem U7 {k:Nat} {p:Nat->Nat × Nat} {v:AV} (h:OT k v=false):BW (C2 σ k p) v=BW σ v:=by
 cases v with
 | agg cs=>simp only[OT]at h;simp only[BW,SS h]
 | fn p f g cs=>simp only[OT]at h;simp only[BW,SS h]
 | row a b c d e=>exact dM (v := .row a b c d e) h
 | ptr a b c d=>exact dM (v := .ptr a b c d) h
 | _=>rfl
theorem rD {k:Nat} {p:Nat->Nat × Nat} : ∀ {cs:List AV},SN k cs=false->cs.map (BW (C2 σ k p))=cs.map (BW σ)
 | [],_=>rfl
 | c::r,h=>by
  simp only[SN]at h
  cases h1:OT k c<;>simp only[h1,cond_true,cond_false]at h
  ·rw[List.map_cons,List.map_cons,U7 h1,rD h]
  ·cases h
theorem X2 {k:Nat} {p:Nat->Nat × Nat} {v:AV} (h:NG k v=false):BJ (C2 σ k p) v=BJ σ v:=by
 cases v with
 | tup cs=>simp only[NG]at h;simp only[BJ,rD h]
 | agg cs=>exact U7 (v := .agg cs) h
 | fn p f g cs=>exact U7 (v := .fn p f g cs) h
 | row a b c d e=>exact U7 (v := .row a b c d e) h
 | ptr a b c d=>exact U7 (v := .ptr a b c d) h
 | _=>rfl
theorem SP {k:Nat} : ∀ {tm:Tm},HR k tm=false -> ∀ j,NG k (tg tm j)=false
 | [],_,_=>rfl
 | (i,v)::r,h,j=>by
  simp only[HR]at h
  cases h1:NG k v<;>simp only[h1,cond_true,cond_false]at h
  ·simp only[tg]
   cases Nat.beq j i
   ·exact SP h j
   ·exact h1
  ·cases h
theorem Q1 {k:Nat} : ∀ {M:Mem},GK k M=false -> ∀ j s c,mget M j=some (s,c)->j≠k/\HQ k c=false
 | [],_,_,_,_,e=>by cases e
 | (i,s0,c0)::r,h,j,s,c,e=>by
  simp only[GK]at h
  cases h0:Nat.beq k i<;>simp only[h0,cond_true,cond_false]at h
  ·cases h1:HQ k c0<;>simp only[h1,cond_true,cond_false]at h
   ·simp only[mget]at e
    cases h2:Nat.beq j i<;>simp only[h2,cond_true,cond_false]at e
    ·exact Q1 h j s c e
    ·simp only[Option.some.injEq,Prod.mk.injEq]at e
     obtain ⟨_,rfl⟩:=e
     exact ⟨fun e=>FA.1 h0 (e.symm.trans (BP.1 h2)),h1⟩
   ·cases h
  ·cases h
theorem PH {σ σ':FJ} {k:Nat} : ∀ (rows:List (Option (Nat × List (List AV)))) (i:Nat),(∀ j,i<=j->σ k (j+1)=σ' k (j+1))->CG σ k i rows=CG σ' k i rows
 | [],i,h=>rfl
 | none::r,i,h=>by rw[CG,CG,PH r (i+1) fun j hj=>h j (by omega)]
 | some (z,es)::r,i,h=>by rw[CG,CG,PH r (i+1) fun j hj=>h j (by omega),h i (by omega)]
theorem EX {k:Nat} : ∀ (rows:List (Option (Nat × List (List AV)))) (i j:Nat),(CG σ k i rows)[j]? = (rows[j]?).map fun r=>match r with|none=>[.nil]|some (z,es)=>[.row (σ k (i+j+1)).1 (σ k (i+j+1)).2 z 0 es.length]
 | [],i,j=>by simp [CG]
 | none::r,i,0=>by simp [CG]
 | none::r,i,j+1=>by simp only[CG,List.getElem?_cons_succ,EX r (i+1) j];rw[show i+1+j=i+(j+1) by omega]
 | some (z,es)::r,i,0=>by simp [CG]
 | some (z,es)::r,i,j+1=>by simp only[CG,List.getElem?_cons_succ,EX r (i+1) j];rw[show i+1+j=i+(j+1) by omega]
theorem EY {k:Nat} : ∀ (rows:List (Option (Nat × List (List AV)))) (i:Nat),(CG σ k i rows).length=rows.length
 | [],i=>rfl
 | none::r,i=>by simp [CG,EY r]
 | some (z,es)::r,i=>by simp [CG,EY r]
theorem V5 {k j:Nat} {f:Nat->Nat × Nat} {c:BB} (h:HQ k c=false) (hj:j≠k):c.blk (C2 σ k f) j=c.blk σ j:=by
 cases c with
 | bx cs=>simp only[HQ]at h;simp only[BB.blk,SS h]
 | rw z es=>rfl
 | bs z es=>simp only[HQ]at h;simp only[BB.blk,dK h]
 | mx rows=>simp only[BB.blk];rw[PH rows 0 fun i _=>by rw[CT f hj]]
 | hx a v rows=>simp only[BB.blk];rw[PH rows 0 fun i _=>by rw[CT f hj]]
 | vw w rows=>simp only[BB.blk];rw[PH rows 0 fun i _=>by rw[CT f hj]]
theorem yP {v:AV} (h:dat v=true):BD σ v=v:=by cases v<;>first|rfl|cases h
theorem IO : ∀ {cs:List AV},D4 cs=true->cs.map (BD σ)=cs
 | [],_=>rfl
 | c::r,h=>by
  simp only[D4]at h
  cases h1:dat c<;>simp only[h1,cond_true,cond_false]at h
  ·cases h
  ·rw[List.map_cons,yP h1,IO h]
theorem yO {k:Nat} {v:AV} (h:dat v=true):NF k v=false:=by cases v<;>first|rfl|cases h
theorem ZB {k:Nat} : ∀ {cs:List AV},D4 cs=true->IB k cs=false
 | [],_=>rfl
 | c::r,h=>by
  simp only[D4]at h
  cases h1:dat c<;>simp only[h1,cond_true,cond_false]at h
  ·cases h
  ·simp only[IB,yO h1,ZB h,cond_false]
theorem yM (v:AV):cv v = .any\/(cv v=v/\BJ σ v=v):=by
 cases v with
 | agg cs =>
  simp only[cv]
  cases h:D4 cs
  ·exact Or.inl rfl
  ·exact Or.inr ⟨rfl,by simp only[BJ,BW,IO h]⟩
 | tup vs=>cases vs with
  | nil=>exact Or.inr ⟨rfl,rfl⟩
  | cons=>exact Or.inl rfl
 | _=>first|exact Or.inl rfl|exact Or.inr ⟨rfl,rfl⟩
theorem yJ {k:Nat} (v:AV):NG k (cv v)=false:=by
 cases v with
 | agg cs =>
  simp only[cv]
  cases h:D4 cs
  ·rfl
  ·exact ZB h
 | tup vs=>cases vs<;>rfl
 | _=>rfl
variable {tm:Tm} {M:Mem} {st:St}
theorem RX.ev (h:RX σ tm M st) {x:AQ} {v:AV} (e:ex tm x=v) (hv:v ≠ .any):st.ev x=BJ σ v:=by
 cases x with
 | t n =>
  simp only[ex]at e
  rcases h.tm n with h|h
  ·exact absurd (e.symm.trans h) hv
  ·rw[e]at h;exact h
 | c u =>
  simp only[ex]at e
  rcases yM (σ:=σ) u with h|⟨h,h'⟩
  ·exact absurd (e.symm.trans h) hv
  ·rw[<-e,h,h'];rfl
theorem lI {k:Nat} (h:HR k tm=false) (x:AQ):NG k (ex tm x)=false:=by
 cases x with
 | t n=>exact SP h n
 | c u=>exact yJ u
theorem pQ {k:Nat} {v:AV} {cs:List AV} (h:NG k v=false) (e:cellsOf v=some cs):IB k cs=false:=by
 cases v<;>simp only[cellsOf,Option.some.injEq,reduceCtorEq]at e<;>subst e<;>first|exact h|rfl|(simp only[NG,OT]at h;simp only[IB,h,cond_false])
theorem NR {v:AV} {cs:List AV} (e:cellsOf v=some cs):cellsOf (BJ σ v)=some (cs.map (BD σ)):=by
 cases v<;>simp only[cellsOf,Option.some.injEq,reduceCtorEq]at e<;>subst e<;>rfl
def BB.flat:BB->Prop
 | .mx rows => ∀ (i:Nat) (x:Nat × List (List AV)),rows[i]? = some (some x)->False
 | .hx _ _ _=>False
 | .vw _ _=>False
 | _=>True
theorem DU {M:Mem} {k s:Nat} {c:BB} (h:mget M k=some (s,c)):mref M k 0=some c:=by simp [mref,h]
theorem G8 {M:Mem} {k t:Nat} {c:BB} (h:mref M k t=some c) : ∃ s c0,mget M k=some (s,c0)/\(t=0->c=c0)/\(∀ i,t=i+1 -> ∃ rows z es,((c0 = .mx rows \/ ∃ a v,c0 = .hx a v rows) \/ ∃ w,c0 = .vw w rows)/\rows[i]? = some (some (z,es))/\c = .rw z es):=by
 unfold mref at h
 cases hm:mget M k with
 | none=>simp [hm]at h
 | some x =>
  obtain ⟨s,c0⟩:=x
  simp only[hm]at h
  refine ⟨s,c0,rfl,?_,?_⟩
  ·rintro rfl;exact (Option.some.inj h).symm
  ·rintro i rfl
   cases c0 with
   | mx rows =>
    simp only at h
    cases hr:rows[i]? with
    | none=>simp [hr]at h
    | some r =>
     cases r with
     | none=>simp [hr]at h
     | some ze=>obtain ⟨z,es⟩:=ze;simp only[hr,Option.some.injEq]at h;exact ⟨rows,z,es,Or.inl (Or.inl rfl),hr,h.symm⟩
   | hx a v rows =>
    simp only at h
    cases hr:rows[i]? with
    | none=>simp [hr]at h
    | some r =>
     cases r with
     | none=>simp [hr]at h
     | some ze=>obtain ⟨z,es⟩:=ze;simp only[hr,Option.some.injEq]at h;exact ⟨rows,z,es,Or.inl (Or.inr ⟨a,v,rfl⟩),hr,h.symm⟩
   | vw w rows =>
    simp only at h
    cases hr:rows[i]? with
    | none=>simp [hr]at h
    | some r =>
     cases r with
     | none=>simp [hr]at h
     | some ze=>obtain ⟨z,es⟩:=ze;simp only[hr,Option.some.injEq]at h;exact ⟨rows,z,es,Or.inr ⟨w,rfl⟩,hr,h.symm⟩
   | _=>simp at h
theorem M9 {M:Mem} {k s:Nat} {c:BB} {j t:Nat} (h:j≠k):mref ((k,s,c)::M) j t=mref M j t:=by
 simp only[mref,mget,FA.2 h,cond_false]
theorem PG {M:Mem} {k s:Nat} {c:BB}:mref ((k,s,c)::M) k 0=some c:=by simp [mref,mget]
theorem SF {M:Mem} {k s:Nat} {c:BB} (hc:c.flat) {t:Nat} {c':BB} (h:mref ((k,s,c)::M) k t=some c'):t=0/\c'=c:=by
 cases t with
 | zero=>rw[PG]at h;exact ⟨rfl,(Option.some.inj h).symm⟩
 | succ i =>
  simp only[mref,mget,Nat.beq_refl,cond_true]at h
  cases c with
  | mx rows =>
   simp only at h
   split at h
   ·rename_i z es hr
    exact (hc i (z,es) hr).elim
   ·cases h
  | hx a v rows=>exact hc.elim
  | vw w rows=>exact hc.elim
  | _=>simp at h
theorem Adu {σ σ':FJ} {k k':Nat} {rows:List (Option (Nat × List (List AV)))} (h:BB.flat (.mx rows)):CG σ k 0 rows=CG σ' k' 0 rows:=by
 apply List.ext_getElem?
 intro j
 rw[EX,EX]
 cases hr:rows[j]? with
 | none=>rfl
 | some r=>cases r with
  | none=>rfl
  | some x=>exact (h j x hr).elim
theorem RX.newq (h:RX σ tm M st) {s q:Nat} (hm:GK s M=false) (ht:HR s tm=false) (c:BB) (hf:c.flat) (hc:HQ s c=false) (hl:c.isRow=true->EO q=true) :
  RX (C2 σ s fun _=>(q,st.own.cnt q)) tm ((s,q,c)::M) ⟨st.tm,st.own.put q ((st.own q).new (c.blk σ s))⟩:=by
 have hput : ∀ j t c',mref M j t=some c'->((st.own.put q ((st.own q).new (c.blk σ s))) (σ j t).1).blk (σ j t).2=(st.own (σ j t).1).blk (σ j t).2:=by
  intro j t c' e
  by_cases hs:(σ j t).1=q
  ·have ho:=h.sat.old _ _ _ e
   rw[hs]at ho ⊢
   simp only[AH.put_same,CO.new]
   rw[if_neg (by omega)]
  ·rw[AH.put_ne _ _ _ _ hs]
 have hcnt : ∀ s',(st.own s').cnt<=((st.own.put q ((st.own q).new (c.blk σ s))) s').cnt:=by
  intro s'
  by_cases hs:s'=q
  ·subst hs;simp only[AH.put_same,CO.new];omega
  ·rw[AH.put_ne _ _ _ _ hs];exact Nat.le_refl _
 have hne : ∀ j t c',j≠s->mref ((s,q,c)::M) j t=some c'->mref M j t=some c':=fun j t c' hj e=>by rwa [M9 hj]at e
 have hrf : ∀ j t c',mref M j t=some c'->HQ s c'=false/\j≠s:=by
  intro j t c' e
  obtain ⟨s1,c0,g1,g2,g3⟩:=G8 e
  obtain ⟨g4,g5⟩:=Q1 hm _ _ _ g1
  refine ⟨?_,g4⟩
  cases t with
  | zero=>rw[g2 rfl];exact g5
  | succ i=>obtain ⟨rows,z,es,_,_,rfl⟩:=g3 i rfl;rfl
 refine ⟨fun j => ?_,⟨?_,?_,?_,?_,?_⟩⟩
 ·rw[X2 (SP ht j)];exact h.tm j
 ·intro j s' c' e
  simp only[mget]at e
  cases hb:Nat.beq j s<;>simp only[hb,cond_true,cond_false]at e
  ·rw[CT _ (FA.1 hb)];exact h.sat.site _ _ _ e
  ·simp only[Option.some.injEq,Prod.mk.injEq]at e
   obtain ⟨rfl,rfl⟩:=e
   rw[BP.1 hb,BT]
 ·intro j t c' e
  by_cases hj:j=s
  ·subst hj
   obtain ⟨rfl,rfl⟩:=SF hf e
   have hb:c'.blk (C2 σ j fun _=>(q,st.own.cnt q)) j=c'.blk σ j:=by
    cases c' with
    | bx cs=>simp only[HQ]at hc;simp only[BB.blk,SS hc]
    | rw z es=>rfl
    | bs z es=>simp only[HQ]at hc;simp only[BB.blk,dK hc]
    | mx rows=>exact congrArg (DN.mk 1) (Adu hf)
    | hx a v rows=>exact hf.elim
    | vw w rows=>exact hf.elim
   rw[BT,hb]
   simp [AH.put_same,CO.new,AH.cnt]
  ·have e':=hne j t c' hj e
   rw[CT _ hj,V5 (hrf j t c' e').1 hj]
   exact (hput j t c' e').trans (h.sat.blk _ _ _ e')
 ·intro j t c' e
  by_cases hj:j=s
  ·subst hj
   rw[BT]
   simp [AH.put_same,CO.new,AH.cnt]
  ·have e':=hne j t c' hj e
   rw[CT _ hj]
   exact Nat.lt_of_lt_of_le (h.sat.old _ _ _ e') (hcnt _)
 ·have clash : ∀ j t c',mref M j t=some c'->σ j t=(q,st.own.cnt q)->False:=by
   intro j t c' e hh
   have h2:=h.sat.old _ _ _ e
   rw[hh]at h2
   exact absurd h2 (Nat.lt_irrefl _)
  intro j t j' t' c1 c2 e1 e2 hj
  by_cases h1:j=s<;>by_cases h2:j'=s
  ·subst h1;subst h2
   exact ⟨rfl,(SF hf e1).1.trans (SF hf e2).1.symm⟩
  ·subst h1
   rw[BT,CT _ h2]at hj
   exact (clash _ _ _ (hne _ _ _ h2 e2) hj.symm).elim
  ·subst h2
   rw[BT,CT _ h1]at hj
   exact (clash _ _ _ (hne _ _ _ h1 e1) hj).elim
  ·rw[CT _ h1,CT _ h2]at hj
   exact h.sat.inj _ _ _ _ _ _ (hne _ _ _ h1 e1) (hne _ _ _ h2 e2) hj
 ·intro j t c' e hw
  by_cases hj:j=s
  ·subst hj
   obtain ⟨rfl,rfl⟩:=SF hf e
   rw[BT];exact hl hw
  ·rw[CT _ hj];exact h.sat.low _ _ _ (hne j t c' hj e) hw
theorem M7 {k j:Nat} {x:Nat × BB} : ∀ {M:Mem},mget (mdel k M) j=some x->j≠k/\mget M j=some x
 | [],e=>by cases e
 | (i,s,c)::r,e=>by
  simp only[mdel]at e
  cases hb:Nat.beq k i<;>simp only[hb,cond_true,cond_false]at e
  ·simp only[mget]at e ⊢
   cases hj:Nat.beq j i<;>simp only[hj,cond_true,cond_false]at e ⊢
   ·exact M7 e
   ·exact ⟨fun e'=>FA.1 hb (e'.symm.trans (BP.1 hj)),e⟩
  ·obtain ⟨h1,h2⟩:=M7 e
   refine ⟨h1,?_⟩
   simp only[mget]
   rw[FA.2 (fun e'=>h1 (e'.trans (BP.1 hb).symm))]
   exact h2
theorem QW {own:AH} {p:Nat × Nat} {x:Option DN} {q:Nat × Nat} (h:q≠p):((own.put p.1 ((own p.1).upd p.2 x)) q.1).blk q.2=(own q.1).blk q.2:=by
 by_cases hs:q.1=p.1
 ·rw[hs,AH.put_same]
  simp only[CO.upd]
  rw[if_neg (fun e=>h (Prod.ext hs e))]
 ·rw[AH.put_ne _ _ _ _ hs]
theorem XJ {own:AH} {p:Nat × Nat} {x:Option DN}:((own.put p.1 ((own p.1).upd p.2 x)) p.1).blk p.2=x:=by simp [AH.put_same,CO.upd]
theorem UX {own:AH} {p:Nat × Nat} {x:Option DN} (s:Nat):((own.put p.1 ((own p.1).upd p.2 x)) s).cnt=(own s).cnt:=by
 by_cases hs:s=p.1
 ·subst hs;rw[AH.put_same];rfl
 ·rw[AH.put_ne _ _ _ _ hs]
theorem RX.stq (h:RX σ tm M st) {k s:Nat} {c:BB} (e:mget M k=some (s,c)) (hf:c.flat) (c':BB) (hf':c'.flat) (hir:c'.isRow=true->c.isRow=true) :
  RX σ tm ((k,s,c')::M) ⟨st.tm,st.own.put s ((st.own s).upd (σ k 0).2 (some (c'.blk σ k)))⟩:=by
 have hs:=h.sat.site _ _ _ e
 subst hs
 have e0:=DU e
 have hg : ∀ j t c1,mref ((k,(σ k 0).1,c')::M) j t=some c1->(j=k/\t=0/\c1=c')\/(j≠k/\mref M j t=some c1):=by
  intro j t c1 e1
  by_cases hj:j=k
  ·subst hj
   obtain ⟨rfl,rfl⟩:=SF hf' e1
   exact Or.inl ⟨rfl,rfl,rfl⟩
  ·rw[M9 hj]at e1
   exact Or.inr ⟨hj,e1⟩
 have hgo : ∀ j t c1,mref ((k,(σ k 0).1,c')::M) j t=some c1 -> ∃ c2,mref M j t=some c2:=by
  intro j t c1 e1
  rcases hg j t c1 e1 with ⟨rfl,rfl,rfl⟩|⟨_,h2⟩
  ·exact ⟨c,e0⟩
  ·exact ⟨c1,h2⟩
 refine ⟨h.tm,⟨?_,?_,?_,?_,?_⟩⟩
 ·intro j s' c1 e1
  simp only[mget]at e1
  cases hb:Nat.beq j k<;>simp only[hb,cond_true,cond_false]at e1
  ·exact h.sat.site _ _ _ e1
  ·simp only[Option.some.injEq,Prod.mk.injEq]at e1
   rw[BP.1 hb];exact e1.1
 ·intro j t c1 e1
  rcases hg j t c1 e1 with ⟨rfl,rfl,rfl⟩|⟨h1,h2⟩
  ·exact XJ
  ·refine (QW (fun he => ?_)).trans (h.sat.blk _ _ _ h2)
   exact h1 (h.sat.inj _ _ _ _ _ _ h2 e0 he).1
 ·intro j t c1 e1
  obtain ⟨c2,e2⟩:=hgo _ _ _ e1
  show (σ j t).2<((st.own.put (σ k 0).1 ((st.own (σ k 0).1).upd (σ k 0).2 (some (c'.blk σ k)))) (σ j t).1).cnt
  rw[UX]
  exact h.sat.old _ _ _ e2
 ·intro j t j' t' c1 c2 e1 e2 hj
  obtain ⟨_,e1'⟩:=hgo _ _ _ e1
  obtain ⟨_,e2'⟩:=hgo _ _ _ e2
  exact h.sat.inj _ _ _ _ _ _ e1' e2' hj
 ·intro j t c1 e1 hw
  rcases hg j t c1 e1 with ⟨rfl,rfl,rfl⟩|⟨_,h2⟩
  ·exact h.sat.low _ _ _ e0 (hir hw)
  ·exact h.sat.low _ _ _ h2 hw
theorem bU {k t:Nat} {c:BB} (h:mref M k (t+1)=some c):c.isRow=true:=by
 obtain ⟨_,_,_,_,g3⟩:=G8 h
 obtain ⟨_,_,_,_,_,rfl⟩:=g3 t rfl
 rfl
theorem HN {k j t:Nat} {c:BB} (h:mref (mdel k M) j t=some c):j≠k/\mref M j t=some c:=by
 obtain ⟨s,c0,g1,_⟩:=G8 h
 obtain ⟨h1,h2⟩:=M7 g1
 refine ⟨h1,?_⟩
 unfold mref at h ⊢
 rw[g1]at h
 rw[h2]
 exact h
theorem RX.kill (h:RX σ tm M st) {k s:Nat} {c:BB} (e:mget M k=some (s,c)) :
  RX σ tm (mdel k M) ⟨st.tm,st.own.put s ((st.own s).upd (σ k 0).2 none)⟩:=by
 have hs:=h.sat.site _ _ _ e
 subst hs
 have e0:=DU e
 refine ⟨h.tm,⟨?_,?_,?_,?_,?_⟩⟩
 ·intro j s' c1 e1
  exact h.sat.site _ _ _ (M7 e1).2
 ·intro j t c1 e1
  obtain ⟨hj,e1⟩:=HN e1
  refine (QW (fun he => ?_)).trans (h.sat.blk _ _ _ e1)
  exact hj (h.sat.inj _ _ _ _ _ _ e1 e0 he).1
 ·intro j t c1 e1
  obtain ⟨hj,e1⟩:=HN e1
  show (σ j t).2<((st.own.put (σ k 0).1 ((st.own (σ k 0).1).upd (σ k 0).2 none)) (σ j t).1).cnt
  rw[UX]
  exact h.sat.old _ _ _ e1
 ·intro j t j' t' c1 c2 e1 e2 hj
  exact h.sat.inj _ _ _ _ _ _ (HN e1).2 (HN e2).2 hj
 ·intro j t c1 e1 hw
  exact h.sat.low _ _ _ (HN e1).2 hw
theorem RX.putm (h:RX σ tm M st) {k s i z:Nat} {rows:List (Option (Nat × List (List AV)))} {es es':List (List AV)} (e:mget M k=some (s,.mx rows)) (hr:rows[i]? = some (some (z,es))) (hl:es'.length=es.length) :
  RX σ tm ((k,s,.mx (rows.set i (some (z,es'))))::M) ⟨st.tm,st.own.put (σ k (i+1)).1 ((st.own (σ k (i+1)).1).upd (σ k (i+1)).2 (some ⟨z,es'⟩))⟩:=by
 have e1:mref M k (i+1)=some (.rw z es):=by simp [mref,e,hr]
 have hi:i<rows.length:=(zS hr).1
 have hmx:CG σ k 0 (rows.set i (some (z,es')))=CG σ k 0 rows:=by
  apply List.ext_getElem?
  intro j
  rw[EX,EX]
  by_cases hj:i=j
  ·subst hj;rw[List.getElem?_set_self hi,hr];simp [hl]
  ·rw[List.getElem?_set_ne hj]
 have hg : ∀ j t c1,mref ((k,s,.mx (rows.set i (some (z,es'))))::M) j t=some c1->(j=k/\t=i+1/\c1 = .rw z es')\/(¬ (j=k/\t=i+1) /\ ∃ c2,mref M j t=some c2/\c2.blk σ j=c1.blk σ j):=by
  intro j t c1 g
  by_cases hj:j=k
  ·subst hj
   cases t with
   | zero =>
    rw[PG]at g
    obtain rfl:=Option.some.inj g
    exact Or.inr ⟨by omega,_,DU e,by simp only[BB.blk,hmx]⟩
   | succ t =>
    simp only[mref,mget,Nat.beq_refl,cond_true]at g
    by_cases hti:i=t
    ·subst hti
     rw[List.getElem?_set_self hi]at g
     exact Or.inl ⟨rfl,rfl,(Option.some.inj g).symm⟩
    ·rw[List.getElem?_set_ne hti]at g
     refine Or.inr ⟨by omega,c1,?_,rfl⟩
     simp only[mref,e]
     exact g
  ·rw[M9 hj]at g
   exact Or.inr ⟨by omega,c1,g,rfl⟩
 have hgo : ∀ j t c1,mref ((k,s,.mx (rows.set i (some (z,es'))))::M) j t=some c1 -> ∃ c2,mref M j t=some c2:=by
  intro j t c1 g
  rcases hg j t c1 g with ⟨rfl,rfl,rfl⟩|⟨_,c2,h2,_⟩
  ·exact ⟨_,e1⟩
  ·exact ⟨c2,h2⟩
 refine ⟨h.tm,⟨?_,?_,?_,?_,?_⟩⟩
 ·intro j s' c1 g
  simp only[mget]at g
  cases hb:Nat.beq j k<;>simp only[hb,cond_true,cond_false]at g
  ·exact h.sat.site _ _ _ g
  ·simp only[Option.some.injEq,Prod.mk.injEq]at g
   rw[BP.1 hb,<-g.1];exact h.sat.site _ _ _ e
 ·intro j t c1 g
  rcases hg j t c1 g with ⟨rfl,rfl,rfl⟩|⟨h1,c2,h2,h3⟩
  ·exact XJ
  ·rw[<-h3]
   refine (QW (fun he => ?_)).trans (h.sat.blk _ _ _ h2)
   exact h1 (h.sat.inj _ _ _ _ _ _ h2 e1 he)
 ·intro j t c1 g
  obtain ⟨c2,e2⟩:=hgo _ _ _ g
  show (σ j t).2<((st.own.put (σ k (i+1)).1 ((st.own (σ k (i+1)).1).upd (σ k (i+1)).2 (some ⟨z,es'⟩))) (σ j t).1).cnt
  rw[UX]
  exact h.sat.old _ _ _ e2
 ·intro j t j' t' c1 c2 g1 g2 hj
  obtain ⟨_,e1'⟩:=hgo _ _ _ g1
  obtain ⟨_,e2'⟩:=hgo _ _ _ g2
  exact h.sat.inj _ _ _ _ _ _ e1' e2' hj
 ·intro j t c1 g hw
  obtain ⟨c2,e2⟩:=hgo _ _ _ g
  cases t with
  | zero =>
   by_cases hj:j=k
   ·subst hj;exact h.sat.low _ _ _ (DU e) rfl
   ·rw[M9 hj]at g;exact h.sat.low _ _ _ g hw
  | succ t=>exact h.sat.low _ _ _ e2 (bU e2)
section
variable {k:Nat} {f:Nat->Nat × Nat}
theorem dL {v:AV} (hf:f 0=σ k 0) (h:OE k v=false):BD (C2 σ k f) v=BD σ v:=by
 cases v with
 | row j t z o n =>
  simp only[OE]at h
  cases hb:Nat.beq j k
  ·simp only[BD,CT f (FA.1 hb)]
  ·obtain rfl:=BP.1 hb
   simp only[hb,cond_true]at h
   cases t with
   | zero=>simp only[BD,BT,hf]
   | succ t=>cases h
 | ptr j t a b =>
  simp only[OE]at h
  cases hb:Nat.beq j k
  ·simp only[BD,CT f (FA.1 hb)]
  ·obtain rfl:=BP.1 hb
   simp only[hb,cond_true]at h
   cases t with
   | zero=>simp only[BD,BT,hf]
   | succ t=>cases h
 | _=>rfl
theorem U5 (hf:f 0=σ k 0) : ∀ {cs:List AV},NU k cs=false->cs.map (BD (C2 σ k f))=cs.map (BD σ)
 | [],_=>rfl
 | c::r,h=>by
  simp only[NU]at h
  cases h1:OE k c<;>simp only[h1,cond_true,cond_false]at h
  ·rw[List.map_cons,List.map_cons,dL hf h1,U5 hf h]
  ·cases h
theorem qZ (hf:f 0=σ k 0) : ∀ {es:List (List AV)},RR k es=false->(es.map fun cs=>cs.map (BD (C2 σ k f)))=es.map fun cs=>cs.map (BD σ)
 | [],_=>rfl
 | c::r,h=>by
  simp only[RR]at h
  cases h1:NU k c<;>simp only[h1,cond_true,cond_false]at h
  ·rw[List.map_cons,List.map_cons,U5 hf h1,qZ hf h]
  ·cases h
theorem U6 {v:AV} (hf:f 0=σ k 0) (h:QA k v=false):BW (C2 σ k f) v=BW σ v:=by
 cases v with
 | agg cs=>simp only[QA]at h;simp only[BW,U5 hf h]
 | fn p f g cs=>simp only[QA]at h;simp only[BW,U5 hf h]
 | row a b c d e=>exact dL (v := .row a b c d e) hf h
 | ptr a b c d=>exact dL (v := .ptr a b c d) hf h
 | _=>rfl
theorem rC (hf:f 0=σ k 0) : ∀ {cs:List AV},RQ k cs=false->cs.map (BW (C2 σ k f))=cs.map (BW σ)
 | [],_=>rfl
 | c::r,h=>by
  simp only[RQ]at h
  cases h1:QA k c<;>simp only[h1,cond_true,cond_false]at h
  ·rw[List.map_cons,List.map_cons,U6 hf h1,rC hf h]
  ·cases h
theorem rE {v:AV} (hf:f 0=σ k 0) (h:O7 k v=false):BJ (C2 σ k f) v=BJ σ v:=by
 cases v with
 | tup cs=>simp only[O7]at h;simp only[BJ,rC hf h]
 | agg cs=>exact U6 (v := .agg cs) hf h
 | fn p f g cs=>exact U6 (v := .fn p f g cs) hf h
 | row a b c d e=>exact U6 (v := .row a b c d e) hf h
 | ptr a b c d=>exact U6 (v := .ptr a b c d) hf h
 | _=>rfl
theorem Y3 : ∀ {tm:Tm},I6 k tm=false -> ∀ j,O7 k (tg tm j)=false
 | [],_,_=>rfl
 | (i,v)::r,h,j=>by
  simp only[I6]at h
  cases h1:O7 k v<;>simp only[h1,cond_true,cond_false]at h
  ·simp only[tg]
   cases Nat.beq j i
   ·exact Y3 h j
   ·exact h1
  ·cases h
theorem Y2 : ∀ {M:Mem},HW k M=false -> ∀ j s c,mget M j=some (s,c)->NT k c=false
 | [],_,_,_,_,e=>by cases e
 | (i,s0,c0)::r,h,j,s,c,e=>by
  simp only[HW]at h
  cases h1:NT k c0<;>simp only[h1,cond_true,cond_false]at h
  ·simp only[mget]at e
   cases h2:Nat.beq j i<;>simp only[h2,cond_true,cond_false]at e
   ·exact Y2 h j s c e
   ·simp only[Option.some.injEq,Prod.mk.injEq]at e
    obtain ⟨_,rfl⟩:=e
    exact h1
  ·cases h
theorem fY {c:BB} {j:Nat} (hf:f 0=σ k 0) (h:NT k c=false) (hj:j≠k):c.blk (C2 σ k f) j=c.blk σ j:=by
 cases c with
 | bx cs=>simp only[NT]at h;simp only[BB.blk,U5 hf h]
 | rw z es=>rfl
 | bs z es=>simp only[NT]at h;simp only[BB.blk,qZ hf h]
 | mx rows=>simp only[BB.blk];rw[PH rows 0 fun i _=>by rw[CT f hj]]
 | hx a v rows=>simp only[BB.blk];rw[PH rows 0 fun i _=>by rw[CT f hj]]
 | vw w rows=>simp only[BB.blk];rw[PH rows 0 fun i _=>by rw[CT f hj]]
end
theorem RX.setm (h:RX σ tm M st) {k k2 s s2 i z:Nat} {rows:List (Option (Nat × List (List AV)))} {es:List (List AV)} {c0:BB} (e:mget M k=some (s,c0)) (hc0:c0 = .mx rows \/ ∃ v,c0 = .hx i v rows) (e2:mget M k2=some (s2,.rw z es)) (hk:k≠k2) (hct:I6 k tm=false) (hcm:HW k M=false) (hi:i<rows.length) :
  RX (C2 σ k fun t=>if t=i+1 then σ k2 0 else σ k t) tm ((k,s,.mx (rows.set i (some (z,es))))::mdel k2 M) ⟨st.tm,st.own.put s ((st.own s).upd (σ k 0).2 (some ⟨1,(CG σ k 0 rows).set i [.row (σ k2 0).1 (σ k2 0).2 z 0 es.length]⟩))⟩:=by
 have hs:=h.sat.site _ _ _ e
 subst hs
 have r0:=DU e
 have r2:=DU e2
 have f0:(fun t=>if t=i+1 then σ k2 0 else σ k t) 0=σ k 0:=by simp
 have hmx:CG (C2 σ k fun t=>if t=i+1 then σ k2 0 else σ k t) k 0 (rows.set i (some (z,es)))=(CG σ k 0 rows).set i [.row (σ k2 0).1 (σ k2 0).2 z 0 es.length]:=by
  apply List.ext_getElem?
  intro j
  rw[EX,BT]
  by_cases hj:i=j
  ·subst hj
   rw[List.getElem?_set_self hi,List.getElem?_set_self (by rw[EY];exact hi)]
   simp
  ·rw[List.getElem?_set_ne hj,List.getElem?_set_ne hj,EX]
   congr 1
   funext r
   cases r with
   | none=>rfl
   | some x=>simp only[Nat.zero_add];rw[if_neg (by omega)]
 have hg : ∀ j t c,mref ((k,(σ k 0).1,.mx (rows.set i (some (z,es))))::mdel k2 M) j t=some c ->
   (j=k/\t=0/\c = .mx (rows.set i (some (z,es))))\/(j=k/\t=i+1/\c = .rw z es)\/(j=k/\t≠0/\t≠i+1/\mref M k t=some c)\/(j≠k/\j≠k2/\mref M j t=some c):=by
  intro j t c g
  by_cases hj:j=k
  ·subst hj
   cases t with
   | zero=>rw[PG]at g;exact Or.inl ⟨rfl,rfl,(Option.some.inj g).symm⟩
   | succ t =>
    simp only[mref,mget,Nat.beq_refl,cond_true]at g
    by_cases hti:i=t
    ·subst hti
     rw[List.getElem?_set_self hi]at g
     exact Or.inr (Or.inl ⟨rfl,rfl,(Option.some.inj g).symm⟩)
    ·rw[List.getElem?_set_ne hti]at g
     refine Or.inr (Or.inr (Or.inl ⟨rfl,by omega,by omega,?_⟩))
     rcases hc0 with rfl|⟨v,rfl⟩
     ·simp only[mref,e]
      exact g
     ·simp only[mref,e]
      exact g
  ·rw[M9 hj]at g
   obtain ⟨g1,g2⟩:=HN g
   exact Or.inr (Or.inr (Or.inr ⟨hj,g1,g2⟩))
 have hch : ∀ j t c,mref M j t=some c->NT k c=false:=by
  intro j t c g
  obtain ⟨s1,c0,g1,g2,g3⟩:=G8 g
  cases t with
  | zero=>rw[g2 rfl];exact Y2 hcm _ _ _ g1
  | succ t=>obtain ⟨_,_,_,_,_,rfl⟩:=g3 t rfl;rfl
 refine ⟨fun j => ?_,⟨?_,?_,?_,?_,?_⟩⟩
 ·rw[rE (f:=fun t=>if t=i+1 then σ k2 0 else σ k t) f0 (Y3 hct j)];exact h.tm j
 ·intro j s' c g
  simp only[mget]at g
  cases hb:Nat.beq j k<;>simp only[hb,cond_true,cond_false]at g
  ·rw[CT _ (FA.1 hb)];exact h.sat.site _ _ _ (M7 g).2
  ·simp only[Option.some.injEq,Prod.mk.injEq]at g
   rw[BP.1 hb,BT,<-g.1];simp
 ·intro j t c g
  rcases hg j t c g with ⟨rfl,rfl,rfl⟩|⟨rfl,rfl,rfl⟩|⟨rfl,h0,h1,g2⟩|⟨h0,h1,g2⟩
  ·rw[BT]
   simp only[BB.blk,hmx]
   exact XJ
  ·rw[BT]
   simp only[if_true]
   exact (QW (fun he=>hk (h.sat.inj _ _ _ _ _ _ r2 r0 he).1.symm)).trans (h.sat.blk _ _ _ r2)
  ·rw[BT]
   simp only[h1,if_false]
   have hb:c.blk (C2 σ j fun t=>if t=i+1 then σ k2 0 else σ j t) j=c.blk σ j:=by
    obtain ⟨_,_,_,_,g3⟩:=G8 g2
    obtain ⟨t',rfl⟩ : ∃ t',t=t'+1:=⟨t-1,by omega⟩
    obtain ⟨_,_,_,_,_,rfl⟩:=g3 t' rfl
    rfl
   rw[hb]
   exact (QW (fun he=>h0 (h.sat.inj _ _ _ _ _ _ g2 r0 he).2)).trans (h.sat.blk _ _ _ g2)
  ·rw[CT _ h0,fY (f:=fun t=>if t=i+1 then σ k2 0 else σ k t) f0 (hch _ _ _ g2) h0]
   exact (QW (fun he=>h0 (h.sat.inj _ _ _ _ _ _ g2 r0 he).1)).trans (h.sat.blk _ _ _ g2)
 ·intro j t c g
  rw[UX]
  rcases hg j t c g with ⟨rfl,rfl,rfl⟩|⟨rfl,rfl,rfl⟩|⟨rfl,h0,h1,g2⟩|⟨h0,h1,g2⟩
  ·rw[BT];simpa using h.sat.old _ _ _ r0
  ·rw[BT];simpa using h.sat.old _ _ _ r2
  ·rw[BT];simp only[h1,if_false];exact h.sat.old _ _ _ g2
  ·rw[CT _ h0];exact h.sat.old _ _ _ g2
 ·-- each name is that of something in the old memory
  have hold : ∀ j t c,mref ((k,(σ k 0).1,.mx (rows.set i (some (z,es))))::mdel k2 M) j t=some c -> ∃ j0 t0 c0,mref M j0 t0=some c0/\(C2 σ k fun t=>if t=i+1 then σ k2 0 else σ k t) j t=σ j0 t0/\((j0=k2/\t0=0/\j=k/\t=i+1)\/(j0=j/\t0=t/\j≠k2)):=by
   intro j t c g
   rcases hg j t c g with ⟨rfl,rfl,rfl⟩|⟨rfl,rfl,rfl⟩|⟨rfl,h0,h1,g2⟩|⟨h0,h1,g2⟩
   ·exact ⟨_,_,_,r0,by rw[BT];simp,Or.inr ⟨rfl,rfl,hk⟩⟩
   ·exact ⟨_,_,_,r2,by rw[BT];simp,Or.inl ⟨rfl,rfl,rfl,rfl⟩⟩
   ·exact ⟨_,_,_,g2,by rw[BT];simp [h1],Or.inr ⟨rfl,rfl,hk⟩⟩
   ·exact ⟨_,_,_,g2,by rw[CT _ h0],Or.inr ⟨rfl,rfl,h1⟩⟩
  intro j t j' t' c c' g g' hj
  obtain ⟨j0,t0,c0,a1,a2,a3⟩:=hold j t c g
  obtain ⟨j1,t1,c1,b1,b2,b3⟩:=hold j' t' c' g'
  rw[a2,b2]at hj
  obtain ⟨q1,q2⟩:=h.sat.inj _ _ _ _ _ _ a1 b1 hj
  rcases a3 with ⟨x1,x2,x3,x4⟩|⟨x1,x2,x3⟩<;>rcases b3 with ⟨y1,y2,y3,y4⟩|⟨y1,y2,y3⟩
  ·exact ⟨x3.trans y3.symm,x4.trans y4.symm⟩
  ·exact absurd (y1.symm.trans (q1.symm.trans x1)) y3
  ·exact absurd (x1.symm.trans (q1.trans y1)) x3
  ·exact ⟨x1.symm.trans (q1.trans y1),x2.symm.trans (q2.trans y2)⟩
 ·intro j t c g hw
  rcases hg j t c g with ⟨rfl,rfl,rfl⟩|⟨rfl,rfl,rfl⟩|⟨rfl,h0,h1,g2⟩|⟨h0,h1,g2⟩
  ·rw[BT];simpa using h.sat.low _ _ _ r0 (by rcases hc0 with rfl|⟨v,rfl⟩<;>rfl)
  ·rw[BT];simpa using h.sat.low _ _ _ r2 rfl
  ·rw[BT];simp only[h1,if_false];exact h.sat.low _ _ _ g2 hw
  ·rw[CT _ h0];exact h.sat.low _ _ _ g2 hw
theorem QN {own:AH} {q t:Nat} {b:DN} {p:Nat × Nat} (h:p≠(q,t)) (ho:p.2<(own p.1).cnt):((own.put q (((own q).upd t none).new b)) p.1).blk p.2=(own p.1).blk p.2:=by
 by_cases hs:p.1=q
 ·rw[hs]at ho ⊢
  rw[AH.put_same]
  simp only[CO.new,CO.upd]
  have h1 : ¬ p.2=(own q).cnt:=by omega
  have h2 : ¬ p.2=t:=fun e=>h (Prod.ext hs e)
  simp only[h1,h2,if_false]
 ·rw[AH.put_ne _ _ _ _ hs]
theorem QO {own:AH} {q t:Nat} {b:DN} (s:Nat):(own s).cnt<=((own.put q (((own q).upd t none).new b)) s).cnt:=by
 by_cases hs:s=q
 ·subst hs;rw[AH.put_same];simp only[CO.new,CO.upd];omega
 ·rw[AH.put_ne _ _ _ _ hs];exact Nat.le_refl _
theorem RX.appc (h:RX σ tm M st) {s key sk i z:Nat} {rows:List (Option (Nat × List (List AV)))} {es es':List (List AV)} (e:mget M key=some (sk,.mx rows)) (hr:rows[i]? = some (some (z,es))) (hm:GK s M=false) (ht:HR s tm=false) :
  RX (C2 σ s fun _=>((σ key (i+1)).1,st.own.cnt (σ key (i+1)).1)) tm ((s,(σ key (i+1)).1,.rw z es')::(key,sk,.hx i (.row (σ key (i+1)).1 (σ key (i+1)).2 z 0 es.length) (rows.set i none))::mdel key M)
   ⟨st.tm,st.own.put (σ key (i+1)).1 (((st.own (σ key (i+1)).1).upd (σ key (i+1)).2 none).new ⟨z,es'⟩)⟩:=by
 have r0:=DU e
 have e1:mref M key (i+1)=some (.rw z es):=by simp [mref,e,hr]
 have hi:i<rows.length:=(zS hr).1
 have hks:key≠s:=(Q1 hm _ _ _ e).1
 have hmx:(CG (C2 σ s fun _=>((σ key (i+1)).1,st.own.cnt (σ key (i+1)).1)) key 0 (rows.set i none)).set i [.row (σ key (i+1)).1 (σ key (i+1)).2 z 0 es.length]=CG σ key 0 rows:=by
  apply List.ext_getElem?
  intro j
  by_cases hj:i=j
  ·subst hj
   rw[List.getElem?_set_self (by rw[EY,List.length_set];exact hi),EX,hr]
   simp
  ·rw[List.getElem?_set_ne hj,EX,EX,List.getElem?_set_ne hj,CT _ hks]
 have hrf : ∀ j t c',mref M j t=some c'->HQ s c'=false/\j≠s:=by
  intro j t c' g
  obtain ⟨s1,c0,g1,g2,g3⟩:=G8 g
  obtain ⟨g4,g5⟩:=Q1 hm _ _ _ g1
  refine ⟨?_,g4⟩
  cases t with
  | zero=>rw[g2 rfl];exact g5
  | succ i=>obtain ⟨rows,z,es,_,_,rfl⟩:=g3 i rfl;rfl
 have hg : ∀ j t c,mref ((s,(σ key (i+1)).1,.rw z es')::(key,sk,.hx i (.row (σ key (i+1)).1 (σ key (i+1)).2 z 0 es.length) (rows.set i none))::mdel key M) j t=some c ->
   (j=s/\t=0/\c = .rw z es')\/(j=key/\t=0/\c = .hx i (.row (σ key (i+1)).1 (σ key (i+1)).2 z 0 es.length) (rows.set i none))\/(j≠s /\ ¬ (j=key/\t=0) /\ ¬ (j=key/\t=i+1)/\(j=key -> ∃ z es,c = .rw z es)/\mref M j t=some c):=by
  intro j t c g
  by_cases hj:j=s
  ·subst hj
   obtain ⟨rfl,rfl⟩:=SF (c := .rw z es') trivial g
   exact Or.inl ⟨rfl,rfl,rfl⟩
  ·rw[M9 hj]at g
   by_cases hk:j=key
   ·subst hk
    cases t with
    | zero=>rw[PG]at g;exact Or.inr (Or.inl ⟨rfl,rfl,(Option.some.inj g).symm⟩)
    | succ t =>
     simp only[mref,mget,Nat.beq_refl,cond_true]at g
     by_cases hti:i=t
     ·subst hti
      rw[List.getElem?_set_self hi]at g
      cases g
     ·rw[List.getElem?_set_ne hti]at g
      refine Or.inr (Or.inr ⟨hj,by omega,by omega,fun _ => ?_,?_⟩)
      ·split at g
       ·exact ⟨_,_,(Option.some.inj g).symm⟩
       ·cases g
      ·simp only[mref,e]
       exact g
   ·rw[M9 hk]at g
    obtain ⟨g1,g2⟩:=HN g
    exact Or.inr (Or.inr ⟨hj,by omega,by omega,fun h=>absurd h hk,g2⟩)
 refine ⟨fun j => ?_,⟨?_,?_,?_,?_,?_⟩⟩
 ·rw[X2 (SP ht j)];exact h.tm j
 ·intro j s1 c g
  simp only[mget]at g
  cases hb:Nat.beq j s<;>simp only[hb,cond_true,cond_false]at g
  ·rw[CT _ (FA.1 hb)]
   cases hb2:Nat.beq j key<;>simp only[hb2,cond_true,cond_false]at g
   ·exact h.sat.site _ _ _ (M7 g).2
   ·simp only[Option.some.injEq,Prod.mk.injEq]at g
    rw[BP.1 hb2,<-g.1];exact h.sat.site _ _ _ e
  ·simp only[Option.some.injEq,Prod.mk.injEq]at g
   rw[BP.1 hb,BT,<-g.1]
 ·intro j t c g
  rcases hg j t c g with ⟨rfl,rfl,rfl⟩|⟨rfl,rfl,rfl⟩|⟨h0,h1,h2,h3,g2⟩
  ·rw[BT]
   simp [AH.put_same,CO.new,AH.cnt,CO.upd,BB.blk]
  ·rw[CT _ hks]
   simp only[BB.blk,hmx]
   exact (QN (fun he=>absurd (h.sat.inj _ _ _ _ _ _ r0 e1 he).2 (by omega)) (h.sat.old _ _ _ r0)).trans (h.sat.blk _ _ _ r0)
  ·rw[CT _ h0,V5 (hrf _ _ _ g2).1 h0]
   exact (QN (fun he=>h2 (h.sat.inj _ _ _ _ _ _ g2 e1 he)) (h.sat.old _ _ _ g2)).trans (h.sat.blk _ _ _ g2)
 ·intro j t c g
  rcases hg j t c g with ⟨rfl,rfl,rfl⟩|⟨rfl,rfl,rfl⟩|⟨h0,h1,h2,h3,g2⟩
  ·rw[BT]
   simp [AH.put_same,CO.new,AH.cnt,CO.upd]
  ·rw[CT _ hks]
   exact Nat.lt_of_lt_of_le (h.sat.old _ _ _ r0) (QO _)
  ·rw[CT _ h0]
   exact Nat.lt_of_lt_of_le (h.sat.old _ _ _ g2) (QO _)
 ·have hold : ∀ j t c,mref ((s,(σ key (i+1)).1,.rw z es')::(key,sk,.hx i (.row (σ key (i+1)).1 (σ key (i+1)).2 z 0 es.length) (rows.set i none))::mdel key M) j t=some c->(j=s/\t=0)\/(j≠s /\ ∃ c0,mref M j t=some c0):=by
   intro j t c g
   rcases hg j t c g with ⟨rfl,rfl,rfl⟩|⟨rfl,rfl,rfl⟩|⟨h0,h1,h2,h3,g2⟩
   ·exact Or.inl ⟨rfl,rfl⟩
   ·exact Or.inr ⟨hks,_,r0⟩
   ·exact Or.inr ⟨h0,_,g2⟩
  have new0 : ∀ j0 t0 c0,mref M j0 t0=some c0->((σ key (i+1)).1,st.own.cnt (σ key (i+1)).1)≠σ j0 t0:=by
   intro j0 t0 c0 g he
   have:=h.sat.old _ _ _ g
   rw[<-he]at this
   exact absurd this (Nat.lt_irrefl _)
  intro j t j' t' c c' g g' hj
  rcases hold j t c g with ⟨rfl,rfl⟩|⟨a1,c1,a2⟩<;>rcases hold j' t' c' g' with ⟨rfl,rfl⟩|⟨b1,c2,b2⟩
  ·exact ⟨rfl,rfl⟩
  ·rw[BT,CT _ b1]at hj;exact absurd hj (new0 _ _ _ b2)
  ·rw[BT,CT _ a1]at hj;exact absurd hj.symm (new0 _ _ _ a2)
  ·rw[CT _ a1,CT _ b1]at hj
   exact h.sat.inj _ _ _ _ _ _ a2 b2 hj
 ·intro j t c g hw
  rcases hg j t c g with ⟨rfl,rfl,rfl⟩|⟨rfl,rfl,rfl⟩|⟨h0,h1,h2,h3,g2⟩
  ·rw[BT];exact h.sat.low _ _ _ e1 rfl
  ·rw[CT _ hks];exact h.sat.low _ _ _ r0 rfl
  ·rw[CT _ h0];exact h.sat.low _ _ _ g2 hw
theorem RX.view (h:RX σ tm M st) {k s:Nat} {c0:BB} {rows:List (Option (Nat × List (List AV)))} {w:List Nat} (e:mget M k=some (s,c0)) (hc0:c0 = .mx rows \/ ∃ w0,c0 = .vw w0 rows) :
  RX σ tm ((k,s,.vw w rows)::M) ⟨st.tm,st.own.put s ((st.own s).upd (σ k 0).2 (some (BB.blk σ k (.vw w rows))))⟩:=by
 have hs:=h.sat.site _ _ _ e
 subst hs
 have r0:=DU e
 have hg : ∀ j t c,mref ((k,(σ k 0).1,.vw w rows)::M) j t=some c->(j=k/\t=0/\c = .vw w rows)\/(¬ (j=k/\t=0)/\mref M j t=some c):=by
  intro j t c g
  by_cases hj:j=k
  ·subst hj
   cases t with
   | zero=>rw[PG]at g;exact Or.inl ⟨rfl,rfl,(Option.some.inj g).symm⟩
   | succ t =>
    refine Or.inr ⟨by omega,?_⟩
    simp only[mref,mget,Nat.beq_refl,cond_true]at g
    rcases hc0 with rfl|⟨w0,rfl⟩
    ·simp only[mref,e]
     exact g
    ·simp only[mref,e]
     exact g
  ·rw[M9 hj]at g
   exact Or.inr ⟨by omega,g⟩
 have hgo : ∀ j t c1,mref ((k,(σ k 0).1,.vw w rows)::M) j t=some c1 -> ∃ c2,mref M j t=some c2:=by
  intro j t c1 g
  rcases hg j t c1 g with ⟨rfl,rfl,rfl⟩|⟨_,h2⟩
  ·exact ⟨_,r0⟩
  ·exact ⟨_,h2⟩
 refine ⟨h.tm,⟨?_,?_,?_,?_,?_⟩⟩
 ·intro j s' c1 g
  simp only[mget]at g
  cases hb:Nat.beq j k<;>simp only[hb,cond_true,cond_false]at g
  ·exact h.sat.site _ _ _ g
  ·simp only[Option.some.injEq,Prod.mk.injEq]at g
   rw[BP.1 hb];exact g.1
 ·intro j t c1 g
  rcases hg j t c1 g with ⟨rfl,rfl,rfl⟩|⟨h1,h2⟩
  ·exact XJ
  ·refine (QW (fun he => ?_)).trans (h.sat.blk _ _ _ h2)
   exact h1 (h.sat.inj _ _ _ _ _ _ h2 r0 he)
 ·intro j t c1 g
  obtain ⟨c2,e2⟩:=hgo _ _ _ g
  show (σ j t).2<((st.own.put (σ k 0).1 ((st.own (σ k 0).1).upd (σ k 0).2 _)) (σ j t).1).cnt
  rw[UX]
  exact h.sat.old _ _ _ e2
 ·intro j t j' t' c1 c2 g1 g2 hj
  obtain ⟨_,e1'⟩:=hgo _ _ _ g1
  obtain ⟨_,e2'⟩:=hgo _ _ _ g2
  exact h.sat.inj _ _ _ _ _ _ e1' e2' hj
 ·intro j t c1 g hw
  rcases hg j t c1 g with ⟨rfl,rfl,rfl⟩|⟨_,h2⟩
  ·exact h.sat.low _ _ _ r0 (by rcases hc0 with rfl|⟨w0,rfl⟩<;>rfl)
  ·exact h.sat.low _ _ _ h2 hw
theorem RX.unview (h:RX σ tm M st) {k s:Nat} {rows rows':List (Option (Nat × List (List AV)))} {w:List Nat} (e:mget M k=some (s,.vw w rows)) (hl:rows'.length=w.length)
  (hw : ∀ (i t:Nat),w[i]? = some t -> ∃ r,rows[t]? = some r/\rows'[i]? = some r) (hi : ∀ (i i' t:Nat),w[i]? = some t->w[i']? = some t->i=i') (hct:I6 k tm=false) (hcm:HW k M=false) :
  ∃ σ',RX σ' tm ((k,s,.mx rows')::M) st:=by
 have hs:=h.sat.site _ _ _ e
 subst hs
 have r0:=DU e
 obtain ⟨f,hf⟩ : ∃ f:Nat->Nat × Nat,f=fun t=>match t with|0=>σ k 0|i+1=>match w[i]? with|some v=>σ k (v+1)|none=>σ k (i+1):=⟨_,rfl⟩
 have f0:f 0=σ k 0:=by rw[hf]
 have f1 : ∀ i v,w[i]? = some v->f (i+1)=σ k (v+1):=fun i v hv=>by rw[hf];simp only[hv]
 have hch : ∀ j t c,mref M j t=some c->NT k c=false:=by
  intro j t c g
  obtain ⟨s1,c0,g1,g2,g3⟩:=G8 g
  cases t with
  | zero=>rw[g2 rfl];exact Y2 hcm _ _ _ g1
  | succ t=>obtain ⟨_,_,_,_,_,rfl⟩:=g3 t rfl;rfl
 have hwl : ∀ i,i<rows'.length -> ∃ v r,w[i]? = some v/\rows[v]? = some r/\rows'[i]? = some r:=fun i hi=>by
  obtain ⟨v,hv⟩ : ∃ v,w[i]? = some v:=⟨_,zE (by omega)⟩
  obtain ⟨r,h1,h2⟩:=hw i v hv
  exact ⟨v,r,hv,h1,h2⟩
 have hmx:CG (C2 σ k f) k 0 rows'=w.map fun t=>((CG σ k 0 rows)[t]?).getD []:=by
  apply List.ext_getElem?
  intro i
  rw[EX,BT,List.getElem?_map]
  by_cases hil:i<rows'.length
  ·obtain ⟨v,r,h1,h2,h3⟩:=hwl i hil
   rw[h3,h1,Option.map_some,Option.map_some,EX,h2,Option.map_some,Option.getD_some,Nat.zero_add,Nat.zero_add,f1 i v h1]
  ·rw[List.getElem?_eq_none (by omega),List.getElem?_eq_none (by omega)];rfl
 have hg : ∀ j t c,mref ((k,(σ k 0).1,.mx rows')::M) j t=some c ->
   (j=k/\t=0/\c = .mx rows')\/(∃ i v,j=k/\t=i+1/\w[i]? = some v/\mref M k (v+1)=some c)\/(j≠k/\mref M j t=some c):=by
  intro j t c g
  by_cases hj:j=k
  ·subst hj
   cases t with
   | zero=>rw[PG]at g;exact Or.inl ⟨rfl,rfl,(Option.some.inj g).symm⟩
   | succ t =>
    simp only[mref,mget,Nat.beq_refl,cond_true]at g
    by_cases htl:t<rows'.length
    ·obtain ⟨v,r,h1,h2,h3⟩:=hwl t htl
     refine Or.inr (Or.inl ⟨t,v,rfl,rfl,h1,?_⟩)
     rw[h3]at g
     simp only[mref,e,h2]
     exact g
    ·rw[List.getElem?_eq_none (by omega)]at g;cases g
  ·rw[M9 hj]at g
   exact Or.inr (Or.inr ⟨hj,g⟩)
 have hcr : ∀ v c,mref M k (v+1)=some c -> ∃ z es,c = .rw z es:=fun v c g=>by
  obtain ⟨_,_,_,_,g3⟩:=G8 g
  obtain ⟨_,z,es,_,_,rfl⟩:=g3 v rfl
  exact ⟨z,es,rfl⟩
 refine ⟨C2 σ k f,fun j => ?_,⟨?_,?_,?_,?_,?_⟩⟩
 ·rw[rE f0 (Y3 hct j)];exact h.tm j
 ·intro j s' c g
  simp only[mget]at g
  cases hb:Nat.beq j k<;>simp only[hb,cond_true,cond_false]at g
  ·rw[CT _ (FA.1 hb)];exact h.sat.site _ _ _ g
  ·simp only[Option.some.injEq,Prod.mk.injEq]at g
   rw[BP.1 hb,BT,<-g.1,f0]
 ·intro j t c g
  rcases hg j t c g with ⟨rfl,rfl,rfl⟩|⟨i,v,rfl,rfl,h1,g2⟩|⟨h0,g2⟩
  ·rw[BT,f0]
   have:=h.sat.blk _ _ _ r0
   simp only[BB.blk,hmx]at this ⊢
   exact this
  ·rw[BT,f1 i v h1]
   obtain ⟨z,es,rfl⟩:=hcr v c g2
   exact h.sat.blk _ _ _ g2
  ·rw[CT _ h0,fY f0 (hch _ _ _ g2) h0]
   exact h.sat.blk _ _ _ g2
 ·intro j t c g
  rcases hg j t c g with ⟨rfl,rfl,rfl⟩|⟨i,v,rfl,rfl,h1,g2⟩|⟨h0,g2⟩
  ·rw[BT,f0];exact h.sat.old _ _ _ r0
  ·rw[BT,f1 i v h1];exact h.sat.old _ _ _ g2
  ·rw[CT _ h0];exact h.sat.old _ _ _ g2
 ·have hold : ∀ j t c,mref ((k,(σ k 0).1,.mx rows')::M) j t=some c -> ∃ j0 t0 c0,mref M j0 t0=some c0/\(C2 σ k f) j t=σ j0 t0/\((j=k/\j0=k/\((t=0/\t0=0) \/ ∃ i v,t=i+1/\t0=v+1/\w[i]? = some v))\/(j≠k/\j0=j/\t0=t)):=by
   intro j t c g
   rcases hg j t c g with ⟨rfl,rfl,rfl⟩|⟨i,v,rfl,rfl,h1,g2⟩|⟨h0,g2⟩
   ·exact ⟨_,_,_,r0,by rw[BT,f0],Or.inl ⟨rfl,rfl,Or.inl ⟨rfl,rfl⟩⟩⟩
   ·exact ⟨_,_,_,g2,by rw[BT,f1 i v h1],Or.inl ⟨rfl,rfl,Or.inr ⟨i,v,rfl,rfl,h1⟩⟩⟩
   ·exact ⟨_,_,_,g2,by rw[CT _ h0],Or.inr ⟨h0,rfl,rfl⟩⟩
  intro j t j' t' c c' g g' hj
  obtain ⟨j0,t0,c0,a1,a2,a3⟩:=hold j t c g
  obtain ⟨j1,t1,c1,b1,b2,b3⟩:=hold j' t' c' g'
  rw[a2,b2]at hj
  obtain ⟨q1,q2⟩:=h.sat.inj _ _ _ _ _ _ a1 b1 hj
  rcases a3 with ⟨x1,x2,x3⟩|⟨x1,x2,x3⟩<;>rcases b3 with ⟨y1,y2,y3⟩|⟨y1,y2,y3⟩
  ·refine ⟨x1.trans y1.symm,?_⟩
   rcases x3 with ⟨x4,x5⟩|⟨i,v,x4,x5,x6⟩<;>rcases y3 with ⟨y4,y5⟩|⟨i',v',y4,y5,y6⟩
   ·omega
   ·omega
   ·omega
   ·obtain rfl:v=v':=by omega
    have:=hi i i' v x6 y6
    omega
  ·exact absurd (y2.symm.trans (q1.symm.trans x2)) y1
  ·exact absurd (x2.symm.trans (q1.trans y2)) x1
  ·exact ⟨x2.symm.trans (q1.trans y2),x3.symm.trans (q2.trans y3)⟩
 ·intro j t c g hw
  rcases hg j t c g with ⟨rfl,rfl,rfl⟩|⟨i,v,rfl,rfl,h1,g2⟩|⟨h0,g2⟩
  ·rw[BT,f0];exact h.sat.low _ _ _ r0 rfl
  ·rw[BT,f1 i v h1];exact h.sat.low _ _ _ g2 (bU g2)
  ·rw[CT _ h0];exact h.sat.low _ _ _ g2 hw
theorem RX.appn (h:RX σ tm M st) {s key s':Nat} {rows:List (Option (Nat × List (List AV)))} (e:mget M key=some (s',.mx rows)) (hm:GK s M=false) (ht:HR s tm=false) :
  RX (C2 σ s fun t=>match t with|0=>(s',st.own.cnt s')|i+1=>σ key (i+1)) tm ((s,s',.mx (rows++[none]))::mdel key M)
   ⟨st.tm,st.own.put s' (((st.own s').upd (σ key 0).2 none).new ⟨1,CG σ key 0 rows++[[.nil]]⟩)⟩:=by
 have hs:=h.sat.site _ _ _ e
 subst hs
 have r0:=DU e
 generalize hF:(fun t=>match t with|0=>((σ key 0).1,st.own.cnt (σ key 0).1)|i+1=>σ key (i+1):Nat->Nat × Nat)=F
 have F0:F 0=((σ key 0).1,st.own.cnt (σ key 0).1):=by rw[<-hF]
 have F1 : ∀ i,F (i+1)=σ key (i+1):=by intro i;rw[<-hF]
 have hmx:CG (C2 σ s F) s 0 (rows++[none])=CG σ key 0 rows++[[.nil]]:=by
  apply List.ext_getElem?
  intro j
  rw[EX,BT]
  rcases Nat.lt_trichotomy j rows.length with hj|hj|hj
  ·rw[List.getElem?_append_left hj,List.getElem?_append_left (by rw[EY];exact hj),EX]
   congr 1
   funext r
   cases r with
   | none=>rfl
   | some x=>simp only[Nat.zero_add];rw[F1]
  ·subst hj
   rw[List.getElem?_append_right (Nat.le_refl _),List.getElem?_append_right (by rw[EY];exact Nat.le_refl _),EY]
   simp
  ·rw[List.getElem?_eq_none (by simp;omega),List.getElem?_eq_none (by simp [EY];omega)];rfl
 have hrf : ∀ j t c',mref M j t=some c'->HQ s c'=false/\j≠s:=by
  intro j t c' g
  obtain ⟨s1,c0,g1,g2,g3⟩:=G8 g
  obtain ⟨g4,g5⟩:=Q1 hm _ _ _ g1
  refine ⟨?_,g4⟩
  cases t with
  | zero=>rw[g2 rfl];exact g5
  | succ i=>obtain ⟨rows,z,es,_,_,rfl⟩:=g3 i rfl;rfl
 have hg : ∀ j t c,mref ((s,(σ key 0).1,.mx (rows++[none]))::mdel key M) j t=some c ->
   (j=s/\t=0/\c = .mx (rows++[none]))\/(j=s/\t≠0/\mref M key t=some c)\/(j≠s/\j≠key/\mref M j t=some c):=by
  intro j t c g
  by_cases hj:j=s
  ·subst hj
   cases t with
   | zero=>rw[PG]at g;exact Or.inl ⟨rfl,rfl,(Option.some.inj g).symm⟩
   | succ t =>
    simp only[mref,mget,Nat.beq_refl,cond_true]at g
    rcases Nat.lt_trichotomy t rows.length with ht'|ht'|ht'
    ·rw[List.getElem?_append_left ht']at g
     refine Or.inr (Or.inl ⟨rfl,by omega,?_⟩)
     simp only[mref,e];exact g
    ·subst ht'
     rw[List.getElem?_append_right (Nat.le_refl _),Nat.sub_self]at g
     simp at g
    ·rw[List.getElem?_eq_none (by simp;omega)]at g;cases g
  ·rw[M9 hj]at g
   obtain ⟨g1,g2⟩:=HN g
   exact Or.inr (Or.inr ⟨hj,g1,g2⟩)
 refine ⟨fun j => ?_,⟨?_,?_,?_,?_,?_⟩⟩
 ·rw[X2 (SP ht j)];exact h.tm j
 ·intro j s1 c g
  simp only[mget]at g
  cases hb:Nat.beq j s<;>simp only[hb,cond_true,cond_false]at g
  ·rw[CT _ (FA.1 hb)];exact h.sat.site _ _ _ (M7 g).2
  ·simp only[Option.some.injEq,Prod.mk.injEq]at g
   rw[BP.1 hb,BT,F0,<-g.1]
 ·intro j t c g
  rcases hg j t c g with ⟨rfl,rfl,rfl⟩|⟨rfl,h0,g2⟩|⟨h0,h1,g2⟩
  ·rw[BT,F0]
   simp only[BB.blk,hmx]
   simp [AH.put_same,CO.new,AH.cnt,CO.upd]
  ·obtain ⟨t',rfl⟩ : ∃ t',t=t'+1:=⟨t-1,by omega⟩
   rw[BT,F1]
   have hb:c.blk (C2 σ j F) j=c.blk σ key:=by
    obtain ⟨_,_,_,_,g3⟩:=G8 g2
    obtain ⟨_,_,_,_,_,rfl⟩:=g3 t' rfl
    rfl
   rw[hb]
   exact (QN (fun he=>absurd (h.sat.inj _ _ _ _ _ _ g2 r0 he).2 (by omega)) (h.sat.old _ _ _ g2)).trans (h.sat.blk _ _ _ g2)
  ·rw[CT _ h0,V5 (hrf _ _ _ g2).1 h0]
   exact (QN (fun he=>h1 (h.sat.inj _ _ _ _ _ _ g2 r0 he).1) (h.sat.old _ _ _ g2)).trans (h.sat.blk _ _ _ g2)
 ·intro j t c g
  rcases hg j t c g with ⟨rfl,rfl,rfl⟩|⟨rfl,h0,g2⟩|⟨h0,h1,g2⟩
  ·rw[BT,F0]
   simp [AH.put_same,CO.new,AH.cnt,CO.upd]
  ·obtain ⟨t',rfl⟩ : ∃ t',t=t'+1:=⟨t-1,by omega⟩
   rw[BT,F1]
   exact Nat.lt_of_lt_of_le (h.sat.old _ _ _ g2) (QO _)
  ·rw[CT _ h0]
   exact Nat.lt_of_lt_of_le (h.sat.old _ _ _ g2) (QO _)
 ·have hold : ∀ j t c,mref ((s,(σ key 0).1,.mx (rows++[none]))::mdel key M) j t=some c->(j=s/\t=0) \/ ∃ j0 t0 c0,mref M j0 t0=some c0/\C2 σ s F j t=σ j0 t0/\((j0=key/\t0=t/\j=s)\/(j0=j/\t0=t/\j≠key)):=by
   intro j t c g
   rcases hg j t c g with ⟨rfl,rfl,rfl⟩|⟨rfl,h0,g2⟩|⟨h0,h1,g2⟩
   ·exact Or.inl ⟨rfl,rfl⟩
   ·obtain ⟨t',rfl⟩ : ∃ t',t=t'+1:=⟨t-1,by omega⟩
    exact Or.inr ⟨_,_,_,g2,by rw[BT,F1],Or.inl ⟨rfl,rfl,rfl⟩⟩
   ·exact Or.inr ⟨_,_,_,g2,by rw[CT _ h0],Or.inr ⟨rfl,rfl,h1⟩⟩
  have new0 : ∀ j0 t0 c0,mref M j0 t0=some c0->C2 σ s F s 0≠σ j0 t0:=by
   intro j0 t0 c0 g he
   rw[BT,F0]at he
   have:=h.sat.old _ _ _ g
   rw[<-he]at this
   exact absurd this (Nat.lt_irrefl _)
  intro j t j' t' c c' g g' hj
  rcases hold j t c g with ⟨rfl,rfl⟩|⟨j0,t0,c0,a1,a2,a3⟩<;>rcases hold j' t' c' g' with ⟨rfl,rfl⟩|⟨j1,t1,c1,b1,b2,b3⟩
  ·exact ⟨rfl,rfl⟩
  ·rw[b2]at hj;exact absurd hj (new0 _ _ _ b1)
  ·rw[a2]at hj;exact absurd hj.symm (new0 _ _ _ a1)
  ·rw[a2,b2]at hj
   obtain ⟨q1,q2⟩:=h.sat.inj _ _ _ _ _ _ a1 b1 hj
   rcases a3 with ⟨x1,x2,x3⟩|⟨x1,x2,x3⟩<;>rcases b3 with ⟨y1,y2,y3⟩|⟨y1,y2,y3⟩
   ·exact ⟨x3.trans y3.symm,x2.symm.trans (q2.trans y2)⟩
   ·exact absurd (y1.symm.trans (q1.symm.trans x1)) y3
   ·exact absurd (x1.symm.trans (q1.trans y1)) x3
   ·exact ⟨x1.symm.trans (q1.trans y1),x2.symm.trans (q2.trans y2)⟩
 ·intro j t c g hw
  rcases hg j t c g with ⟨rfl,rfl,rfl⟩|⟨rfl,h0,g2⟩|⟨h0,h1,g2⟩
  ·rw[BT,F0];exact h.sat.low _ _ _ r0 rfl
  ·obtain ⟨t',rfl⟩ : ∃ t',t=t'+1:=⟨t-1,by omega⟩
   rw[BT,F1];exact h.sat.low _ _ _ g2 hw
  ·rw[CT _ h0];exact h.sat.low _ _ _ g2 hw
theorem Y1 {k:Nat} {v:AV} (h:NF k v=false):OE k v=false:=by
 cases v with
 | row j t z o n=>simp only[NF]at h;simp only[OE,h,cond_false]
 | ptr j t a b=>simp only[NF]at h;simp only[OE,h,cond_false]
 | _=>rfl
theorem TI {k:Nat} : ∀ {cs:List AV},IB k cs=false->NU k cs=false
 | [],_=>rfl
 | c::r,h=>by
  simp only[IB]at h
  cases h1:NF k c<;>simp only[h1,cond_true,cond_false]at h
  ·simp only[NU,Y1 h1,cond_false,TI h]
  ·cases h
theorem gD {k:Nat} : ∀ {es:List (List AV)},PK k es=false->RR k es=false
 | [],_=>rfl
 | c::r,h=>by
  simp only[PK]at h
  cases h1:IB k c<;>simp only[h1,cond_true,cond_false]at h
  ·simp only[RR,TI h1,cond_false,gD h]
  ·cases h
theorem TH {k:Nat} {v:AV} (h:OT k v=false):QA k v=false:=by
 cases v with
 | agg cs=>exact TI h
 | fn p f g cs=>exact TI h
 | row a b c d e=>exact Y1 (v := .row a b c d e) h
 | ptr a b c d=>exact Y1 (v := .ptr a b c d) h
 | _=>rfl
theorem gC {k:Nat} : ∀ {cs:List AV},SN k cs=false->RQ k cs=false
 | [],_=>rfl
 | c::r,h=>by
  simp only[SN]at h
  cases h1:OT k c<;>simp only[h1,cond_true,cond_false]at h
  ·simp only[RQ,TH h1,cond_false,gC h]
  ·cases h
theorem xI {k:Nat} {v:AV} (h:NG k v=false):O7 k v=false:=by
 cases v with
 | tup cs=>exact gC h
 | agg cs=>exact TH (v := .agg cs) h
 | fn p f g cs=>exact TH (v := .fn p f g cs) h
 | row a b c d e=>exact TH (v := .row a b c d e) h
 | ptr a b c d=>exact TH (v := .ptr a b c d) h
 | _=>rfl
theorem gF {k:Nat} : ∀ {tm:Tm},HR k tm=false->I6 k tm=false
 | [],_=>rfl
 | (i,v)::r,h=>by
  simp only[HR]at h
  cases h1:NG k v<;>simp only[h1,cond_true,cond_false]at h
  ·simp only[I6,xI h1,cond_false,gF h]
  ·cases h
theorem gE {k:Nat} : ∀ {M:Mem},GK k M=false->HW k M=false
 | [],_=>rfl
 | (i,s,c)::r,h=>by
  simp only[GK]at h
  cases h0:Nat.beq k i<;>simp only[h0,cond_true,cond_false]at h
  ·cases h1:HQ k c<;>simp only[h1,cond_true,cond_false]at h
   ·have:NT k c=false:=by
     cases c with
     | bx cs=>exact TI h1
     | bs z es=>exact gD h1
     | _=>rfl
    simp only[HW,this,cond_false,gE h]
   ·cases h
  ·cases h
theorem RX.hid {M1 M2:Mem} (hm : ∀ k,mget M1 k=mget M2 k) (h:RX σ tm M1 st):RX σ tm M2 st:=by
 have hr : ∀ k t,mref M1 k t=mref M2 k t:=fun k t=>by simp only[mref,hm]
 refine ⟨h.tm,⟨fun k s c e => ?_,fun k t c e => ?_,fun k t c e => ?_,fun k t k' t' c c' e e' => ?_,fun k t c e hw => ?_⟩⟩
 ·rw[<-hm]at e;exact h.sat.site _ _ _ e
 ·rw[<-hr]at e;exact h.sat.blk _ _ _ e
 ·rw[<-hr]at e;exact h.sat.old _ _ _ e
 ·rw[<-hr]at e e';exact h.sat.inj _ _ _ _ _ _ e e'
 ·rw[<-hr]at e;exact h.sat.low _ _ _ e hw
theorem RX.newm (h:RX σ tm M st) {s q k2 s2 z:Nat} {es:List (List AV)} (e2:mget M k2=some (s2,.rw z es)) (hk:s≠k2) (hm:GK s M=false) (ht:HR s tm=false) (hq:EO q=true) :
  ∃ σ',σ' s 0=(q,st.own.cnt q)/\RX σ' tm ((s,q,.mx [some (z,es)])::mdel k2 M) ⟨st.tm,st.own.put q ((st.own q).new ⟨1,[[.row (σ k2 0).1 (σ k2 0).2 z 0 es.length]]⟩)⟩:=by
 have hfl:BB.flat (.mx [none]):=by
  intro i x hx
  cases i with
  | zero=>simp at hx
  | succ i=>simp at hx
 have h1:=h.newq (s:=s) (q:=q) hm ht (.mx [none]) hfl rfl (fun _=>hq)
 have e2':mget ((s,q,.mx [none])::M) k2=some (s2,.rw z es):=by
  simp only[mget,FA.2 (fun e=>hk e.symm),cond_false];exact e2
 have hcm:HW s ((s,q,.mx [none])::M)=false:=by simp only[HW,NT,cond_false,gE hm]
 have h2:=h1.setm (k:=s) (s:=q) (k2:=k2) (i:=0) (rows:=[none]) (c0 := .mx [none]) (by simp [mget]) (Or.inl rfl) e2' hk (gF ht) hcm (by simp)
 refine ⟨C2 σ s (fun t=>if t=0+1 then σ k2 0 else (q,st.own.cnt q)),?_,?_⟩
 ·rw[BT];simp
 ·have hσ:(C2 (C2 σ s fun _=>(q,st.own.cnt q)) s fun t=>if t=0+1 then (C2 σ s fun _=>(q,st.own.cnt q)) k2 0 else (C2 σ s fun _=>(q,st.own.cnt q)) s t)=C2 σ s (fun t=>if t=0+1 then σ k2 0 else (q,st.own.cnt q)):=by
   funext j t
   by_cases hj:j=s
   ·subst hj;rw[BT,BT];simp only[BT,CT _ (fun e=>hk e.symm)]
   ·rw[CT _ hj,CT _ hj,CT _ hj]
  rw[hσ]at h2
  have hM:mdel k2 ((s,q,BB.mx [none])::M)=(s,q,.mx [none])::mdel k2 M:=by
   simp only[mdel,FA.2 (fun e=>hk e.symm),cond_false]
  rw[hM]at h2
  have ho : ∀ b b':DN,(st.own.put q ((st.own q).new b)).put q (((st.own.put q ((st.own q).new b)) q).upd (st.own.cnt q) (some b'))=st.own.put q ((st.own q).new b'):=by
   intro b b'
   rw[AH.put_put,AH.put_same]
   congr 1
   simp only[CO.upd,CO.new,AH.cnt,CO.mk.injEq,true_and]
   funext t'
   by_cases ht':t'=(st.own q).cnt<;>simp [ht']
  have hn:(C2 σ s fun _=>(q,st.own.cnt q)) s 0=(q,st.own.cnt q):=by rw[BT]
  have hk2:(C2 σ s fun _=>(q,st.own.cnt q)) k2=σ k2:=CT _ (fun e=>hk e.symm)
  simp only[hn,hk2]at h2
  rw[ho]at h2
  refine RX.hid (fun k => ?_) h2
  simp only[mget]
  cases Nat.beq k s<;>rfl
theorem RX.appm (h:RX σ tm M st) {s key k2 ky s' s2 z:Nat} {rows:List (Option (Nat × List (List AV)))} {es:List (List AV)} (e:mget M key=some (s',.mx rows)) (e2:mget M k2=some (s2,.rw z es)) (hk:key≠k2) (hm:GK s M=false) (ht:HR s tm=false) :
  RX (C2 σ s fun t=>match t with|0=>(s',st.own.cnt s')|i+1=>if i=rows.length then σ k2 0 else σ key (i+1)) tm ((s,s',.mx (rows++[some (z,es)]))::mdel key (mdel k2 (mdel ky M)))
   ⟨st.tm,st.own.put s' (((st.own s').upd (σ key 0).2 none).new ⟨1,CG σ key 0 rows++[[.row (σ k2 0).1 (σ k2 0).2 z 0 es.length]]⟩)⟩:=by
 have hs:=h.sat.site _ _ _ e
 subst hs
 have r0:=DU e
 have r2:=DU e2
 generalize hF:(fun t=>match t with|0=>((σ key 0).1,st.own.cnt (σ key 0).1)|i+1=>if i=rows.length then σ k2 0 else σ key (i+1):Nat->Nat × Nat)=F
 have F0:F 0=((σ key 0).1,st.own.cnt (σ key 0).1):=by rw[<-hF]
 have F1 : ∀ i,F (i+1)=if i=rows.length then σ k2 0 else σ key (i+1):=by intro i;rw[<-hF]
 have hmx:CG (C2 σ s F) s 0 (rows++[some (z,es)])=CG σ key 0 rows++[[.row (σ k2 0).1 (σ k2 0).2 z 0 es.length]]:=by
  apply List.ext_getElem?
  intro j
  rw[EX,BT]
  rcases Nat.lt_trichotomy j rows.length with hj|hj|hj
  ·rw[List.getElem?_append_left hj,List.getElem?_append_left (by rw[EY];exact hj),EX]
   congr 1
   funext r
   cases r with
   | none=>rfl
   | some x=>simp only[Nat.zero_add];rw[F1,if_neg (by omega)]
  ·subst hj
   rw[List.getElem?_append_right (Nat.le_refl _),List.getElem?_append_right (by rw[EY];exact Nat.le_refl _),EY]
   simp [F1]
  ·rw[List.getElem?_eq_none (by simp;omega),List.getElem?_eq_none (by simp [EY];omega)];rfl
 have hrf : ∀ j t c',mref M j t=some c'->HQ s c'=false/\j≠s:=by
  intro j t c' g
  obtain ⟨s1,c0,g1,g2,g3⟩:=G8 g
  obtain ⟨g4,g5⟩:=Q1 hm _ _ _ g1
  refine ⟨?_,g4⟩
  cases t with
  | zero=>rw[g2 rfl];exact g5
  | succ i=>obtain ⟨rows,z,es,_,_,rfl⟩:=g3 i rfl;rfl
 have hg : ∀ j t c,mref ((s,(σ key 0).1,.mx (rows++[some (z,es)]))::mdel key (mdel k2 (mdel ky M))) j t=some c ->
   (j=s/\t=0/\c = .mx (rows++[some (z,es)]))\/(j=s/\t=rows.length+1/\c = .rw z es)\/(j=s/\t≠0/\t≠rows.length+1/\mref M key t=some c)\/(j≠s/\j≠key/\j≠k2/\mref M j t=some c):=by
  intro j t c g
  by_cases hj:j=s
  ·subst hj
   cases t with
   | zero=>rw[PG]at g;exact Or.inl ⟨rfl,rfl,(Option.some.inj g).symm⟩
   | succ t =>
    simp only[mref,mget,Nat.beq_refl,cond_true]at g
    rcases Nat.lt_trichotomy t rows.length with ht'|ht'|ht'
    ·rw[List.getElem?_append_left ht']at g
     refine Or.inr (Or.inr (Or.inl ⟨rfl,by omega,by omega,?_⟩))
     simp only[mref,e];exact g
    ·subst ht'
     rw[List.getElem?_append_right (Nat.le_refl _),Nat.sub_self]at g
     exact Or.inr (Or.inl ⟨rfl,rfl,(Option.some.inj g).symm⟩)
    ·rw[List.getElem?_eq_none (by simp;omega)]at g;cases g
  ·rw[M9 hj]at g
   obtain ⟨g1,g2⟩:=HN g
   obtain ⟨g3,g4⟩:=HN g2
   obtain ⟨_,g5⟩:=HN g4
   exact Or.inr (Or.inr (Or.inr ⟨hj,g1,g3,g5⟩))
 refine ⟨fun j => ?_,⟨?_,?_,?_,?_,?_⟩⟩
 ·rw[X2 (SP ht j)];exact h.tm j
 ·intro j s1 c g
  simp only[mget]at g
  cases hb:Nat.beq j s<;>simp only[hb,cond_true,cond_false]at g
  ·rw[CT _ (FA.1 hb)];exact h.sat.site _ _ _ (M7 (M7 (M7 g).2).2).2
  ·simp only[Option.some.injEq,Prod.mk.injEq]at g
   rw[BP.1 hb,BT,F0,<-g.1]
 ·intro j t c g
  rcases hg j t c g with ⟨rfl,rfl,rfl⟩|⟨rfl,rfl,rfl⟩|⟨rfl,h0,h1,g2⟩|⟨h0,h1,h2,g2⟩
  ·rw[BT,F0]
   simp only[BB.blk,hmx]
   simp [AH.put_same,CO.new,AH.cnt,CO.upd]
  ·rw[BT,F1,if_pos rfl]
   exact (QN (fun he=>hk (h.sat.inj _ _ _ _ _ _ r2 r0 he).1.symm) (h.sat.old _ _ _ r2)).trans (h.sat.blk _ _ _ r2)
  ·obtain ⟨t',rfl⟩ : ∃ t',t=t'+1:=⟨t-1,by omega⟩
   rw[BT,F1,if_neg (by omega)]
   have hb:c.blk (C2 σ j F) j=c.blk σ key:=by
    obtain ⟨_,_,_,_,g3⟩:=G8 g2
    obtain ⟨_,_,_,_,_,rfl⟩:=g3 t' rfl
    rfl
   rw[hb]
   exact (QN (fun he=>absurd (h.sat.inj _ _ _ _ _ _ g2 r0 he).2 (by omega)) (h.sat.old _ _ _ g2)).trans (h.sat.blk _ _ _ g2)
  ·rw[CT _ h0,V5 (hrf _ _ _ g2).1 h0]
   exact (QN (fun he=>h1 (h.sat.inj _ _ _ _ _ _ g2 r0 he).1) (h.sat.old _ _ _ g2)).trans (h.sat.blk _ _ _ g2)
 ·intro j t c g
  rcases hg j t c g with ⟨rfl,rfl,rfl⟩|⟨rfl,rfl,rfl⟩|⟨rfl,h0,h1,g2⟩|⟨h0,h1,h2,g2⟩
  ·rw[BT,F0]
   simp [AH.put_same,CO.new,AH.cnt,CO.upd]
  ·rw[BT,F1,if_pos rfl]
   exact Nat.lt_of_lt_of_le (h.sat.old _ _ _ r2) (QO _)
  ·obtain ⟨t',rfl⟩ : ∃ t',t=t'+1:=⟨t-1,by omega⟩
   rw[BT,F1,if_neg (by omega)]
   exact Nat.lt_of_lt_of_le (h.sat.old _ _ _ g2) (QO _)
  ·rw[CT _ h0]
   exact Nat.lt_of_lt_of_le (h.sat.old _ _ _ g2) (QO _)
 ·have hold : ∀ j t c,mref ((s,(σ key 0).1,.mx (rows++[some (z,es)]))::mdel key (mdel k2 (mdel ky M))) j t=some c->(j=s/\t=0) \/ ∃ j0 t0 c0,mref M j0 t0=some c0/\C2 σ s F j t=σ j0 t0/\((j0=k2/\t0=0/\j=s/\t=rows.length+1)\/(j0=key/\t0=t/\j=s)\/(j0=j/\t0=t/\j≠key/\j≠k2)):=by
   intro j t c g
   rcases hg j t c g with ⟨rfl,rfl,rfl⟩|⟨rfl,rfl,rfl⟩|⟨rfl,h0,h1,g2⟩|⟨h0,h1,h2,g2⟩
   ·exact Or.inl ⟨rfl,rfl⟩
   ·exact Or.inr ⟨_,_,_,r2,by rw[BT,F1,if_pos rfl],Or.inl ⟨rfl,rfl,rfl,rfl⟩⟩
   ·obtain ⟨t',rfl⟩ : ∃ t',t=t'+1:=⟨t-1,by omega⟩
    exact Or.inr ⟨_,_,_,g2,by rw[BT,F1,if_neg (by omega)],Or.inr (Or.inl ⟨rfl,rfl,rfl⟩)⟩
   ·exact Or.inr ⟨_,_,_,g2,by rw[CT _ h0],Or.inr (Or.inr ⟨rfl,rfl,h1,h2⟩)⟩
  have new0 : ∀ j0 t0 c0,mref M j0 t0=some c0->C2 σ s F s 0≠σ j0 t0:=by
   intro j0 t0 c0 g he
   rw[BT,F0]at he
   have:=h.sat.old _ _ _ g
   rw[<-he]at this
   exact absurd this (Nat.lt_irrefl _)
  intro j t j' t' c c' g g' hj
  rcases hold j t c g with ⟨rfl,rfl⟩|⟨j0,t0,c0,a1,a2,a3⟩<;>rcases hold j' t' c' g' with ⟨rfl,rfl⟩|⟨j1,t1,c1,b1,b2,b3⟩
  ·exact ⟨rfl,rfl⟩
  ·rw[b2]at hj;exact absurd hj (new0 _ _ _ b1)
  ·rw[a2]at hj;exact absurd hj.symm (new0 _ _ _ a1)
  ·rw[a2,b2]at hj
   obtain ⟨q1,q2⟩:=h.sat.inj _ _ _ _ _ _ a1 b1 hj
   rcases a3 with ⟨x1,x2,x3,x4⟩|⟨x1,x2,x3⟩|⟨x1,x2,x3,x4⟩<;>rcases b3 with ⟨y1,y2,y3,y4⟩|⟨y1,y2,y3⟩|⟨y1,y2,y3,y4⟩
   ·exact ⟨x3.trans y3.symm,x4.trans y4.symm⟩
   ·exact absurd (y1.symm.trans (q1.symm.trans x1)) hk
   ·exact absurd (y1.symm.trans (q1.symm.trans x1)) y4
   ·exact absurd (x1.symm.trans (q1.trans y1)) hk
   ·exact ⟨x3.trans y3.symm,x2.symm.trans (q2.trans y2)⟩
   ·exact absurd (y1.symm.trans (q1.symm.trans x1)) y3
   ·exact absurd (x1.symm.trans (q1.trans y1)) x4
   ·exact absurd (x1.symm.trans (q1.trans y1)) x3
   ·exact ⟨x1.symm.trans (q1.trans y1),x2.symm.trans (q2.trans y2)⟩
 ·intro j t c g hw
  rcases hg j t c g with ⟨rfl,rfl,rfl⟩|⟨rfl,rfl,rfl⟩|⟨rfl,h0,h1,g2⟩|⟨h0,h1,h2,g2⟩
  ·rw[BT,F0];exact h.sat.low _ _ _ r0 rfl
  ·rw[BT,F1,if_pos rfl];exact h.sat.low _ _ _ r2 rfl
  ·obtain ⟨t',rfl⟩ : ∃ t',t=t'+1:=⟨t-1,by omega⟩
   rw[BT,F1,if_neg (by omega)];exact h.sat.low _ _ _ g2 hw
  ·rw[CT _ h0];exact h.sat.low _ _ _ g2 hw
theorem GM (k:IntKind) (n:Int):BJ σ (.int k n) = .int k n:=rfl
theorem GL (b:Bool):BJ σ (.bool b) = .bool b:=rfl
theorem GN (l:Bool) (es:List (List AV)):BJ σ (.sl l es) = .sl l es:=rfl
theorem C9 (k t z o n:Nat):BJ σ (.row k t z o n) = .row (σ k t).1 (σ k t).2 z o n:=rfl
theorem DZ (k t i j:Nat):BJ σ (.ptr k t i j) = .ptr (σ k t).1 (σ k t).2 i j:=rfl
theorem IE (cs:List AV):BJ σ (.dptr cs) = .dptr cs:=rfl
theorem E1:BJ σ .nil = .nil:=rfl
theorem HF (cs:List AV):BJ σ (.agg cs) = .agg (cs.map (BD σ)):=rfl
theorem Agl (v:Value):BJ σ (.con v) = .con v:=rfl
theorem cX (p:Bool) (f g:Nat) (cs:List AV):BJ σ (.fn p f g cs) = .fn p f g (cs.map (BD σ)):=rfl
theorem HS (cs:List AV):BJ σ (.tup cs) = .tup (cs.map (BW σ)):=rfl
def CP.res (own:AH):CP->AV × AH
 | .val v=>(v,own)
 | .new s b f=>(f (own.cnt s),own.put s ((own s).new b))
 | .vir s b f=>(f (own.cnt s),own.put s ((own s).new b))
 | .tur v o=>(v,o)
 | .upd s x=>(.tup [],own.put s x)
 | .upn s x v=>(v,own.put s x)
theorem YU (st:St) (d:Option Nat) (E:CP):st.app d E=⟨(st.dst d (E.res st.own).1).tm,(E.res st.own).2⟩:=by
 cases E<;>cases d<;>rfl
def BS (L:Lib) (tm:Tm) (ban:List Nat) (K:AV->Mem->Prop) (op:D7) (st:St):Prop :=
 ∃ E σ' v M',(∀ c,eff (C5 L c) ban st.ev st.own op=some E)/\K v M'/\(E.res st.own).1=BJ σ' v/\RX σ' tm M' ⟨st.tm,(E.res st.own).2⟩
theorem BS.val {L:Lib} {ban:List Nat} {K:AV->Mem->Prop} {op:D7} (h:RX σ tm M st) (v:AV) (he : ∀ c,eff (C5 L c) ban st.ev st.own op=some (.val (BJ σ v))) (hk:K v M):BS L tm ban K op st :=
 ⟨_,σ,v,M,he,hk,rfl,h⟩
variable {L:Lib} {ban:List Nat} {K:AV->Mem->Prop}
theorem wA {x:AQ} (hr:RX σ tm M st) (h:XE L tm M ban K (.mov x)):BS L tm ban K (.mov x) st:=by
 simp only[XE]at h
 obtain ⟨h1,h2⟩:=WW h
 exact BS.val hr _ (fun C=>by simp only[eff,hr.ev rfl h1]) h2
theorem wH {s z:Nat} (hr:RX σ tm M st) (h:XE L tm M ban K (.vrow s z)):BS L tm ban K (.vrow s z) st:=by
 simp only[XE]at h
 cases hlw:EO s<;>simp only[hlw,cond_true,cond_false]at h
 obtain ⟨k,h1,h2,h3⟩:=G2 h
 refine ⟨_,_,_,_,fun C=>rfl,h3,?_,hr.newq h1 h2 (.rw z []) trivial rfl (fun _=>hlw)⟩
 simp only[CP.res,C9,DZ,BT]
theorem wC {c a b:AQ} (hr:RX σ tm M st) (h:XE L tm M ban K (.pick c a b)):BS L tm ban K (.pick c a b) st:=by
 simp only[XE]at h
 split at h
 ·rename_i e
  obtain ⟨h1,h2⟩:=WW h
  exact BS.val hr _ (fun C=>by simp only[eff,hr.ev e (by intro e;cases e),hr.ev rfl h1,GM,GL,GN,C9,DZ,IE,E1,HF,HS]) h2
 ·rename_i e
  obtain ⟨h1,h2⟩:=WW h
  exact BS.val hr _ (fun C=>by simp only[eff,hr.ev e (by intro e;cases e),hr.ev rfl h1,GM,GL,GN,C9,DZ,IE,E1,HF,HS]) h2
 ·exact h.elim
theorem Acr {op:BinOp} {k k':IntKind} {a b:Int} {v:AV} (h:DG op k a k' b=some v):BJ σ v=v:=by
 cases op<;>simp only[DG]at h<;>split at h<;>first|(obtain rfl:=Option.some.inj h;rfl)|cases h
theorem Ac1 {k k':IntKind} (h:kq k k'=true):k=k':=by simpa [kq] using h
theorem wY {op:BinOp} {k k':IntKind} {a b:Int} {K:AV->Prop} (h:YW op k a k' b K) : ∃ v,DG op k a k' b=some v/\K v:=by
 have key : ∀ (p q:Prop) [Decidable p] (A B:Prop) (c:Bool),(¬ p->q)->AF p q A B->(p/\A)\/(¬ p/\B):=by
  intro p q _ A B _ hq hc
  by_cases hp:p
  ·exact Or.inl ⟨hp,hc.1 hp⟩
  ·exact Or.inr ⟨hp,hc.2 (hq hp)⟩
 cases op
 all_goals try (exact h)
 all_goals (
  simp only[YW]at h
  cases hk:kq k k'<;>simp only[hk,cond_true,cond_false]at h
  obtain rfl:=Ac1 hk
  simp only[DG,if_true])
 ·rcases key (a=b) _ _ _ true (fun e=>e) h with ⟨h1,h2⟩|⟨h1,h2⟩
  ·exact ⟨_,rfl,by rw[show (a == b)=true by simpa using h1];exact h2⟩
  ·exact ⟨_,rfl,by rw[show (a == b)=false by simpa using h1];exact h2⟩
 ·rcases key (a≠b) _ _ _ true (fun e=>by omega) h with ⟨h1,h2⟩|⟨h1,h2⟩
  ·exact ⟨_,rfl,by rw[show (a != b)=true by simpa using h1];exact h2⟩
  ·exact ⟨_,rfl,by rw[show (a != b)=false by simpa using h1];exact h2⟩
 ·rcases key (a<b) _ _ _ true (fun e=>by omega) h with ⟨h1,h2⟩|⟨h1,h2⟩
  ·exact ⟨_,rfl,by simpa [h1] using h2⟩
  ·exact ⟨_,rfl,by simpa [h1] using h2⟩
 ·rcases key (a<=b) _ _ _ true (fun e=>by omega) h with ⟨h1,h2⟩|⟨h1,h2⟩
  ·exact ⟨_,rfl,by simpa [h1] using h2⟩
  ·exact ⟨_,rfl,by simpa [h1] using h2⟩
 ·rcases key (b<a) _ _ _ true (fun e=>by omega) h with ⟨h1,h2⟩|⟨h1,h2⟩
  ·exact ⟨_,rfl,by simpa [h1] using h2⟩
  ·exact ⟨_,rfl,by simpa [h1] using h2⟩
 ·rcases key (b<=a) _ _ _ true (fun e=>by omega) h with ⟨h1,h2⟩|⟨h1,h2⟩
  ·exact ⟨_,rfl,by simpa [h1] using h2⟩
  ·exact ⟨_,rfl,by simpa [h1] using h2⟩
theorem vH {op:BinOp} {x y:AQ} (hr:RX σ tm M st) (h:XE L tm M ban K (.bin op x y)):BS L tm ban K (.bin op x y) st:=by
 simp only[XE]at h
 split at h
 ·rename_i k a k' b e1 e2
  obtain ⟨v,hv,hk⟩:=wY h
  exact BS.val hr v (fun C=>by
   simp only[eff,hr.ev e1 (by intro e;cases e),hr.ev e2 (by intro e;cases e),GM,GL,GN,C9,DZ,IE,E1,HF,HS,hv,Option.map_some]
   exact congrArg some (congrArg CP.val (Acr (σ:=σ) hv).symm)) hk
 ·exact h.elim
theorem vG {ne:Bool} {x y:AQ} (hr:RX σ tm M st) (h:XE L tm M ban K (.beq ne x y)):BS L tm ban K (.beq ne x y) st:=by
 simp only[XE]at h
 split at h
 ·rename_i a b e1 e2
  rw[OL]at h
  exact BS.val hr _ (fun C=>by
   simp only[eff,hr.ev e1 (by intro e;cases e),hr.ev e2 (by intro e;cases e),GM,GL,GN,C9,DZ,IE,E1,HF,HS]
   cases ne<;>rfl) h
 ·exact h.elim
theorem aX : ∀ {cs:List AV} {a:List Int},HM cs=some a->cs.map (BD σ)=cs
 | [],_,_=>rfl
 | c::r,a,h=>by
  cases c with
  | int k n =>
   cases k<;>simp only[HM]at h<;>first|cases h|skip
   cases hr:HM r with
   | none=>rw[hr]at h;cases h
   | some b=>rw[List.map_cons,aX hr];rfl
  | _=>simp only[HM]at h;cases h
theorem uZ {ne:Bool} {n:Nat} {x y:AQ} (hr:RX σ tm M st) (h:XE L tm M ban K (.aeq ne n x y)):BS L tm ban K (.aeq ne n x y) st:=by
 simp only[XE]at h
 split at h
 ·rename_i cs ds e1 e2
  obtain ⟨a,b,h1,h2,h3,h4,h⟩:=h
  rw[OL]at h
  exact BS.val hr _ (fun C=>by
   simp only[eff,hr.ev e1 (by intro e;cases e),hr.ev e2 (by intro e;cases e),HF,aX h1,aX h2,h1,h2]
   rw[if_pos ⟨h3,h4⟩]
   cases ne<;>rfl) h
 ·exact h.elim
theorem wG {op:UnOp} {x:AQ} (hr:RX σ tm M st) (h:XE L tm M ban K (.un op x)):BS L tm ban K (.un op x) st:=by
 simp only[XE]at h
 split at h
 ·rename_i k n e1
  obtain ⟨v,hv,hk⟩:=h
  refine BS.val hr v (fun C => ?_) hk
  simp only[eff,hr.ev e1 (by intro e;cases e),GM,GL,GN,C9,DZ,IE,E1,HF,HS,hv,Option.map_some]
  cases op<;>simp only[PU,Option.some.injEq,reduceCtorEq]at hv<;>subst hv<;>rfl
 ·rename_i b e1
  split at h
  ·rw[OL]at h
   exact BS.val hr _ (fun C=>by simp only[eff,hr.ev e1 (by intro e;cases e),GM,GL,GN,C9,DZ,IE,E1,HF,HS,PU,Option.map_some]) h
  ·exact h.elim
 ·exact h.elim
theorem vM {k:IntKind} {x:AQ} (hr:RX σ tm M st) (h:XE L tm M ban K (.conv k x)):BS L tm ban K (.conv k x) st:=by
 simp only[XE]at h
 split at h
 ·rename_i k' n e1
  exact BS.val hr _ (fun C=>by simp only[eff,hr.ev e1 (by intro e;cases e),GM,GL,GN,C9,DZ,IE,E1,HF,HS]) h
 ·exact h.elim
theorem vI {s:Nat} {x:AQ} (hr:RX σ tm M st) (h:XE L tm M ban K (.box s x)):BS L tm ban K (.box s x) st:=by
 simp only[XE]at h
 obtain ⟨h0,cs,hc,h⟩:=WU h
 obtain ⟨k,h1,h2,h3⟩:=G2 h
 refine ⟨.new s (BB.blk σ k (.bx cs)) (fun t => .ptr s t 0 0),_,_,_,fun C => ?_,h3,?_,hr.newq h1 h2 (.bx cs) trivial (pQ (lI h2 x) hc) (fun h=>nomatch h)⟩
 ·simp only[eff,hr.ev rfl h0,NR hc,List.length_map,BB.blk]
 ·simp only[CP.res,C9,DZ,BT]
theorem vA {s:Nat} {z:List AV} (hr:RX σ tm M st) (h:XE L tm M ban K (.alloc s z)):BS L tm ban K (.alloc s z) st:=by
 simp only[XE]at h
 cases hd:D4 z<;>simp only[hd,cond_true,cond_false]at h
 obtain ⟨k,h1,h2,h3⟩:=G2 h
 refine ⟨.new s (BB.blk σ k (.bx z)) (fun t => .ptr s t 0 0),_,_,_,fun C => ?_,h3,?_,hr.newq h1 h2 (.bx z) trivial (ZB hd) (fun h=>nomatch h)⟩
 ·simp only[eff,BB.blk,IO hd]
 ·simp only[CP.res,C9,DZ,BT]
theorem UU {cs ds:List AV} {off n:Nat} (h:part cs off n=some ds):part (cs.map (BD σ)) off n=some (ds.map (BD σ)):=by
 simp only[part]at h ⊢
 split at h
 ·rename_i hl
  rw[if_pos (by simpa using hl)]
  obtain rfl:=Option.some.inj h
  rw[List.map_take,List.map_drop]
 ·cases h
theorem lK {v:AV} {K:AV->Prop} (h:fF v K):v ≠ .any/\BJ σ v=BD σ v/\K v:=by
 cases v<;>simp only[fF]at h<;>first|exact h.elim|exact ⟨(by intro e;cases e),rfl,h⟩
theorem OQ (σ:FJ) {agg:Bool} {ds:List AV} {K:AV->Prop} (h:ofc agg ds K) : ∃ v,IY agg (ds.map (BD σ))=some (BJ σ v)/\K v:=by
 cases agg
 ·simp only[ofc]at h
  split at h
  ·rename_i c
   obtain ⟨_,h1,h2⟩:=lK (σ:=σ) h
   exact ⟨c,by rw[h1];rfl,h2⟩
  ·exact h.elim
 ·exact ⟨.agg ds,rfl,h⟩
theorem qY {cs vs:List AV} {j:Nat}:(splice cs j vs).map (BD σ)=splice (cs.map (BD σ)) j (vs.map (BD σ)):=by
 simp only[splice,List.map_append,List.map_take,List.map_drop,List.length_map]
theorem lQ (hr:RX σ tm M st) : ∀ {ps:List (Nat × Nat × AQ)} {cells:List AV} {K:List AV->Prop},aF tm ps cells K -> ∃ cs,fill (cells.map (BD σ)) (ps.map fun p=>(p.1,p.2.1,st.ev p.2.2))=some (cs.map (BD σ))/\K cs
 | [],cells,K,h=>⟨cells,rfl,h⟩
 | p::r,cells,K,h=>by
  obtain ⟨h0,vs,hc,h⟩:=WU (show fC (ex tm p.2.2) fun vs=>bif Nat.beq vs.length p.2.1 then bif Nat.ble (p.1+p.2.1) cells.length then fL (splice cells p.1 vs) fun cells=>aF tm r cells K else False else False from h)
  cases hz:Nat.beq vs.length p.2.1<;>simp only[hz,cond_true,cond_false]at h
  have hl:Nat.ble (p.1+p.2.1) cells.length=true:=by
   cases hl:Nat.ble (p.1+p.2.1) cells.length
   ·rw[hl]at h;exact h.elim
   ·rfl
  rw[hl]at h
  simp only[cond_true,GT]at h
  obtain ⟨cs,h1,h2⟩:=lQ hr h
  refine ⟨cs,?_,h2⟩
  simp only[List.map_cons,fill,hr.ev rfl h0,NR hc,List.length_map]
  rw[if_pos ⟨BP.1 hz,Nat.le_of_ble_eq_true hl⟩,<-qY]
  exact h1
theorem vK {z:List AV} {ps:List (Nat × Nat × AQ)} (hr:RX σ tm M st) (h:XE L tm M ban K (.build z ps)):BS L tm ban K (.build z ps) st:=by
 simp only[XE]at h
 cases hd:D4 z<;>simp only[hd,cond_true,cond_false]at h
 obtain ⟨cs,h1,h2⟩:=lQ hr h
 refine BS.val hr (.agg cs) (fun C => ?_) h2
 rw[IO hd]at h1
 simp only[eff,h1]
 rfl
theorem lH : ∀ l:List AQ,PC tm l=l.map (ex tm)
 | []=>rfl
 | x::r=>by rw[PC,lH r];rfl
theorem iN : ∀ {es:List (List AV)},TP es=true -> ∀ e∈es,D4 e=true
 | e0::r,h,e,he=>by
  simp only[TP]at h
  cases h1:D4 e0<;>simp only[h1,cond_true,cond_false]at h
  ·cases h
  ·rcases List.mem_cons.1 he with rfl|he
   ·exact h1
   ·exact iN h e he
theorem yN {es:List (List AV)} (h : ∀ e∈es,D4 e=true):(es.map fun cs=>cs.map (BD σ))=es:=by
 conv=>rhs;rw[<-List.map_id es]
 exact List.map_congr_left fun e he=>IO (h e he)
theorem Ac6 {es:List (List AV)} {K:Nat->Prop} (h:bH es K):K es.length:=by
 unfold bH at h;split at h<;>exact h
theorem fZ (hr:RX σ tm M st) {z:Nat} : ∀ {l:List AQ} {K:List (List AV)->Prop},YZ tm z l K -> ∃ es,l.mapM (fun x=>cellsOf (st.ev x))=some (es.map fun cs=>cs.map (BD σ))/\(∀ e∈es,e.length=z)/\(∀ k,HR k tm=false->PK k es=false)/\K es
 | [],K,h=>⟨[],rfl,(fun e he=>by cases he),fun _ _=>rfl,h⟩
 | x::r,K,h=>by
  obtain ⟨h0,cs,hc,h⟩:=WU (show fC (ex tm x) fun cs=>bif Nat.beq cs.length z then YZ tm z r fun es=>K (cs::es) else False from h)
  cases hz:Nat.beq cs.length z<;>simp only[hz,cond_true,cond_false]at h
  obtain ⟨es,h1,h2,h4,h3⟩:=fZ hr h
  refine ⟨cs::es,?_,fun e he => ?_,fun k hk => ?_,h3⟩
  ·rw[List.mapM_cons,h1,hr.ev rfl h0,NR hc];rfl
  ·rcases List.mem_cons.1 he with rfl|he
   ·exact BP.1 hz
   ·exact h2 e he
  ·simp only[PK,pQ (lI hk x) hc,cond_false,h4 k hk]
theorem evL (hr:RX σ tm M st) {xs:List AQ} (h : ∀ v∈PC tm xs,v ≠ .any):xs.map st.ev=(PC tm xs).map (BJ σ):=by
 rw[lH]at h ⊢
 rw[List.map_map]
 exact List.map_congr_left fun x hx=>hr.ev rfl (h _ (List.mem_map_of_mem hx))
theorem vJ {s z:Nat} {ps:List AQ} (hr:RX σ tm M st) (h:XE L tm M ban K (.bslice s z ps)):BS L tm ban K (.bslice s z ps) st:=by
 simp only[XE]at h
 cases hlw:EO s<;>simp only[hlw,cond_true,cond_false]at h
 obtain ⟨es,g1,g2,g3,h⟩:=fZ hr h
 obtain ⟨k,h1,h2,h3⟩:=G2 (Ac6 h)
 have key : ∀ c:BB,c.flat->HQ k c=false->c.blk σ k=⟨z,es.map fun cs=>cs.map (BD σ)⟩->K (.row k 0 z 0 es.length) ((k,s,c)::M)->BS L tm ban K (.bslice s z ps) st:=by
  intro c hf hc hb hk
  refine ⟨.new s (c.blk σ k) (fun t => .row s t z 0 es.length),_,_,_,fun C => ?_,hk,?_,hr.newq h1 h2 c hf hc (fun _=>hlw)⟩
  ·simp only[eff,g1,hb]
   rw[if_pos (fun e he=>by obtain ⟨e',he',rfl⟩:=List.mem_map.1 he;simpa using g2 e' he')]
   simp only[List.length_map]
  ·simp only[CP.res,C9,BT]
 cases hd:TP es<;>simp only[hd,cond_true,cond_false]at h3
 ·exact key (.bs z es) trivial (g3 k h2) rfl h3
 ·exact key (.rw z es) trivial rfl (by simp only[BB.blk];rw[yN (iN hd)]) h3
theorem vP {x:AQ} {off:Nat} (hr:RX σ tm M st) (h:XE L tm M ban K (.fadr x off)):BS L tm ban K (.fadr x off) st:=by
 simp only[XE]at h
 split at h
 ·rename_i key t i j e
  exact BS.val hr _ (fun C=>by simp only[eff,hr.ev e (by intro e;cases e),GM,GL,GN,C9,DZ,IE,E1,HF,HS]) h
 ·rename_i cs e
  rw[GT]at h
  exact BS.val hr _ (fun C=>by simp only[eff,hr.ev e (by intro e;cases e),GM,GL,GN,C9,DZ,IE,E1,HF,HS]) h
 ·exact h.elim
theorem vQ {x:AQ} {off n:Nat} {agg:Bool} (hr:RX σ tm M st) (h:XE L tm M ban K (.fld x off n agg)):BS L tm ban K (.fld x off n agg) st:=by
 simp only[XE]at h
 split at h
 ·rename_i cs e
  split at h
  ·rename_i ds hp
   rw[GT]at h
   obtain ⟨v,h1,h2⟩:=OQ σ h
   exact BS.val hr v (fun C=>by simp only[eff,hr.ev e (by intro e;cases e),HF,UU hp,h1,Option.map_some]) h2
  ·exact h.elim
 ·exact h.elim
theorem vS {arr:Option Nat} {z:Nat} {x i:AQ} (hr:RX σ tm M st) (h:XE L tm M ban K (.iadr arr z x i)):BS L tm ban K (.iadr arr z x i) st:=by
 simp only[XE]at h
 split at h
 ·rename_i kd n e1
  split at h
  ·rename_i len key t i' j e2
   obtain ⟨h1,h2⟩:=h
   exact BS.val hr _ (fun C=>by simp only[eff,hr.ev e1 (by intro e;cases e),hr.ev e2 (by intro e;cases e),GM,GL,GN,C9,DZ,IE,E1,HF,HS];rw[if_pos h1]) h2
  ·rename_i len cs e2
   obtain ⟨h1,h2⟩:=h
   rw[GT]at h2
   exact BS.val hr _ (fun C=>by simp only[eff,hr.ev e1 (by intro e;cases e),hr.ev e2 (by intro e;cases e),GM,GL,GN,C9,DZ,IE,E1,HF,HS];rw[if_pos h1]) h2
  ·rename_i key t z' off len e2
   cases hz:Nat.beq z' z<;>simp only[hz,cond_true,cond_false]at h
   obtain ⟨h1,h2⟩:=h
   exact BS.val hr _ (fun C=>by simp only[eff,hr.ev e1 (by intro e;cases e),hr.ev e2 (by intro e;cases e),GM,GL,GN,C9,DZ,IE,E1,HF,HS];rw[if_pos ⟨h1.1,h1.2,BP.1 hz⟩]) h2
  ·rename_i q es e2
   obtain ⟨h1,cs,h2,h3,h4⟩:=h
   exact BS.val hr _ (fun C=>by simp only[eff,hr.ev e1 (by intro e;cases e),hr.ev e2 (by intro e;cases e),GM,GL,GN,C9,DZ,IE,E1,HF,HS,h2];rw[if_pos h1,if_pos h3]) h4
  ·exact h.elim
 ·exact h.elim
theorem vT {len z:Nat} {agg:Bool} {x i:AQ} (hr:RX σ tm M st) (h:XE L tm M ban K (.idx len z agg x i)):BS L tm ban K (.idx len z agg x i) st:=by
 simp only[XE]at h
 split at h
 ·rename_i kd n cs e1 e2
  obtain ⟨h0,h⟩:=h
  split at h
  ·rename_i ds hp
   rw[GT]at h
   obtain ⟨v,h1,h2⟩:=OQ σ h
   exact BS.val hr v (fun C=>by simp only[eff,hr.ev e1 (by intro e;cases e),hr.ev e2 (by intro e;cases e),GM,GL,GN,C9,DZ,IE,E1,HF,HS,UU hp,h1,Option.map_some];rw[if_pos h0]) h2
  ·exact h.elim
 ·exact h.elim
theorem SH {s:Nat} {own:AH} : ∀ {ban:List Nat},PI s ban=true->own.hide ban s=own s
 | [],_=>rfl
 | b::r,h=>by
  have hm:OO s (b::r)=false:=by simpa [PI] using h
  have : ∀ l:List Nat,OO s l=false->own.hide l s=own s:=by
   intro l
   induction l with
   | nil=>intro _;rfl
   | cons b r ih =>
    intro h
    simp only[OO]at h
    cases hb:Nat.beq s b<;>simp only[hb,cond_true,cond_false]at h
    ·simp only[AH.hide]
     rw[if_neg (FA.1 hb)]
     exact ih h
    ·cases h
  exact this _ hm
theorem cC {s:Nat} {own:AH} (hs:EO s=true) : ∀ {ban:List Nat},QT ban=true->own.hide ban s=own s
 | [],_=>rfl
 | b::r,h=>by
  simp only[QT]at h
  cases hb:EO b<;>simp only[hb,cond_true,cond_false]at h
  ·have hne:s≠b:=fun e=>by rw[e,hb]at hs;cases hs
   show (if s=b then _ else own.hide r s)=own s
   rw[if_neg hne];exact cC hs h
  ·cases h
theorem vV {agg:Bool} {n:Nat} {x:AQ} (hr:RX σ tm M st) (h:XE L tm M ban K (.ld agg n x)):BS L tm ban K (.ld agg n x) st:=by
 simp only[XE]at h
 split at h
 ·rename_i key t i j e
  split at h
  ·rename_i s c hm
   have hs:=hr.sat.site _ _ _ hm
   split at h
   ·cases hb:PI s ban<;>simp only[hb,cond_true,cond_false]at h
    have hbk:=hr.sat.blk _ _ _ (DU hm)
    rw[hs]at hbk
    split at h
    ·rename_i cs
     cases hi:Nat.beq i 0<;>simp only[hi,cond_true,cond_false]at h
     obtain rfl:=BP.1 hi
     split at h
     ·rename_i ds hp
      rw[GT]at h
      obtain ⟨v,h1,h2⟩:=OQ σ h
      exact BS.val hr v (fun C=>by
       simp only[eff,hr.ev e (by intro e;cases e),DZ,AH.ldp,AH.get,hs]
       rw[SH hb,hbk]
       simp only[BB.blk,List.getElem?_cons_zero,UU hp,h1,Option.map_some]) h2
     ·exact h.elim
    ·rename_i z es
     obtain ⟨cs,ds,g1,g2,h⟩:=h
     rw[GT]at h
     cases hd:D4 ds<;>simp only[hd,cond_true,cond_false]at h
     obtain ⟨v,h1,h2⟩:=OQ σ h
     rw[IO hd]at h1
     exact BS.val hr v (fun C=>by
      simp only[eff,hr.ev e (by intro e;cases e),DZ,AH.ldp,AH.get,hs]
      rw[SH hb,hbk]
      simp only[BB.blk,g1,g2,h1,Option.map_some]) h2
    ·rename_i z es
     split at h
     ·rename_i cs g1
      split at h
      ·rename_i ds hp
       rw[GT]at h
       obtain ⟨v,h1,h2⟩:=OQ σ h
       exact BS.val hr v (fun C=>by
        simp only[eff,hr.ev e (by intro e;cases e),DZ,AH.ldp,AH.get,hs]
        rw[SH hb,hbk]
        simp only[BB.blk,List.getElem?_map,g1,Option.map_some,UU hp,h1]) h2
      ·exact h.elim
     ·exact h.elim
    ·rename_i rows
     cases hj:Nat.beq j 0<;>simp only[hj,cond_true,cond_false]at h
     cases hn:Nat.beq n 1<;>simp only[hn,cond_true,cond_false]at h
     obtain rfl:=BP.1 hj
     obtain rfl:=BP.1 hn
     obtain ⟨r,g1,h⟩:=h
     have fin : ∀ c:AV,(CG σ key 0 rows)[i]? = some [BD σ c]->ofc agg [c] (fun v=>K v M)->BS L tm ban K (.ld agg 1 x) st:=by
      intro c hc h
      obtain ⟨v,h1,h2⟩:=OQ σ h
      have hp:part [BD σ c] 0 1=some [BD σ c]:=by simp [part]
      exact BS.val hr v (fun C=>by
       simp only[eff,hr.ev e (by intro e;cases e),DZ,AH.ldp,AH.get,hs]
       rw[SH hb,hbk]
       simp only[BB.blk,hc,hp]
       simp only[List.map_cons,List.map_nil]at h1
       simp only[h1,Option.map_some]) h2
     split at h
     ·rename_i z es
      exact fin _ (by rw[EX,g1];simp [BD]) h
     ·exact fin _ (by rw[EX,g1];simp [BD]) h
    ·exact h.elim
    ·exact h.elim
   ·rename_i i'
    split at h
    ·rename_i rows
     obtain ⟨z,es,g0,cs,ds,g1,g2,h⟩:=h
     rw[GT]at h
     cases hd:D4 ds<;>simp only[hd,cond_true,cond_false]at h
     obtain ⟨v,h1,h2⟩:=OQ σ h
     rw[IO hd]at h1
     have hbk:=hr.sat.blk key (i'+1) (.rw z es) (by simp [mref,hm,g0])
     exact BS.val hr v (fun C=>by
      simp only[eff,hr.ev e (by intro e;cases e),DZ,AH.ldp,AH.get,AH.hide]
      rw[hbk]
      simp only[BB.blk,g1,g2,h1,Option.map_some]) h2
    ·rename_i rows b r
     cases hb:QT (b::r)<;>simp only[hb,cond_true,cond_false]at h
     obtain ⟨z,es,g0,cs,ds,g1,g2,h⟩:=h
     rw[GT]at h
     cases hd:D4 ds<;>simp only[hd,cond_true,cond_false]at h
     obtain ⟨v,h1,h2⟩:=OQ σ h
     rw[IO hd]at h1
     have g':mref M key (i'+1)=some (.rw z es):=by simp [mref,hm,g0]
     have hbk:=hr.sat.blk key (i'+1) (.rw z es) g'
     have hlw:=hr.sat.low key (i'+1) _ g' rfl
     exact BS.val hr v (fun C=>by
      simp only[eff,hr.ev e (by intro e;cases e),DZ,AH.ldp,AH.get]
      rw[cC hlw hb,hbk]
      simp only[BB.blk,g1,g2,h1,Option.map_some]) h2
    ·exact h.elim
  ·exact h.elim
 ·rename_i cs e
  split at h
  ·rename_i ds hp
   rw[GT]at h
   cases hd:D4 ds<;>simp only[hd,cond_true,cond_false]at h
   obtain ⟨v,h1,h2⟩:=OQ σ h
   rw[IO hd]at h1
   exact BS.val hr v (fun C=>by simp only[eff,hr.ev e (by intro e;cases e),IE,hp,h1,Option.map_some]) h2
  ·exact h.elim
 ·exact h.elim
theorem fD {n:Nat} {x v:AQ} (hr:RX σ tm M st) (h:XE L tm M ban K (.st n x v)):BS L tm ban K (.st n x v) st:=by
 simp only[XE,dO]at h
 split at h
 ·rename_i key t i j e
  obtain ⟨h0,vs,hc,h5⟩:=WU h
  clear h
  cases hn:Nat.beq vs.length n<;>simp only[hn,cond_true,cond_false]at h5
  have hn':=BP.1 hn
  split at h5
  ·rename_i s c hm
   have hs:=hr.sat.site _ _ _ hm
   split at h5
   ·have hbk:=hr.sat.blk _ _ _ (DU hm)
    rw[hs]at hbk
    split at h5
    ·rename_i cs
     cases hi:Nat.beq i 0<;>simp only[hi,cond_true,cond_false]at h5
     obtain rfl:=BP.1 hi
     have hl:Nat.ble (j+vs.length) cs.length=true:=by
      cases hl:Nat.ble (j+vs.length) cs.length
      ·rw[hl]at h5;exact h5.elim
      ·rfl
     rw[hl]at h5
     simp only[cond_true,GT]at h5
     refine ⟨.tur (.tup []) (st.own.put s ((st.own s).upd (σ key 0).2 (some (BB.blk σ key (.bx (splice cs j vs)))))),σ,_,_,fun C => ?_,h5,rfl,hr.stq hm trivial _ trivial (fun h=>nomatch h)⟩
     simp only[eff,hr.ev e (by intro e;cases e),DZ,hr.ev rfl h0,NR hc,List.length_map]
     rw[if_pos hn']
     simp only[AH.stp,AH.get,hs,hbk,BB.blk,List.getElem?_cons_zero,List.length_map]
     rw[if_pos (Nat.le_of_ble_eq_true hl)]
     simp only[Option.map_some,List.set_cons_zero,qY]
     have:(splice cs j vs).length=cs.length:=by
      have:=Nat.le_of_ble_eq_true hl
      simp only[splice,List.length_append,List.length_take,List.length_drop];omega
     rw[this]
    ·rename_i z es
     cases hd:D4 vs<;>simp only[hd,cond_true,cond_false]at h5
     obtain ⟨cs,g1,g2,h5⟩:=h5
     refine ⟨.tur (.tup []) (st.own.put s ((st.own s).upd (σ key 0).2 (some (BB.blk σ key (.rw z (es.set i (splice cs j vs))))))),σ,_,_,fun C => ?_,h5,rfl,hr.stq hm trivial _ trivial (fun _=>rfl)⟩
     simp only[eff,hr.ev e (by intro e;cases e),DZ,hr.ev rfl h0,NR hc,IO hd]
     rw[if_pos hn']
     simp only[AH.stp,AH.get,hs,hbk,BB.blk,g1]
     rw[if_pos g2]
     rfl
    ·exact h5.elim
    ·rename_i rows
     split at h5
     ·rename_i key2 z m
      cases hkk:Nat.beq key key2<;>simp only[hkk,cond_true,cond_false]at h5
      cases hct:I6 key tm<;>simp only[hct,cond_true,cond_false]at h5
      cases hcm:HW key M<;>simp only[hcm,cond_true,cond_false]at h5
      cases hj:Nat.beq j 0<;>simp only[hj,cond_true,cond_false]at h5
      obtain rfl:=BP.1 hj
      split at h5
      ·rename_i s2 z' es hm2
       cases hz:Nat.beq z z'<;>simp only[hz,cond_true,cond_false]at h5
       obtain rfl:=BP.1 hz
       rw[MO]at h5
       obtain ⟨rfl,hi,h5⟩:=h5
       have hlen:(CG σ key 0 rows)[i]? = some ((CG σ key 0 rows)[i]'(by rw[EY];exact hi)):=zE _
       have hone:((CG σ key 0 rows)[i]'(by rw[EY];exact hi)).length=1:=by
        have:=EX (σ:=σ) (k:=key) rows 0 i
        rw[hlen,zE hi]at this
        simp only[Option.map_some,Option.some.injEq]at this
        rw[this];split<;>rfl
       refine ⟨.tur (.tup []) (st.own.put s ((st.own s).upd (σ key 0).2 (some ⟨1,(CG σ key 0 rows).set i [.row (σ key2 0).1 (σ key2 0).2 z 0 es.length]⟩))),_,_,_,fun C => ?_,h5,rfl,hr.setm hm (Or.inl rfl) hm2 (FA.1 hkk) hct hcm hi⟩
       simp only[eff,hr.ev e (by intro e;cases e),DZ,hr.ev rfl h0,NR hc,List.length_map]
       rw[if_pos hn']
       simp only[AH.stp,AH.get,hs,hbk,BB.blk,hlen,List.map_cons,List.map_nil,List.length_cons,List.length_nil,BD]
       rw[if_pos (by omega)]
       simp only[Option.map_some]
       have hsp:splice ((CG σ key 0 rows)[i]'(by rw[EY];exact hi)) 0 [.row (σ key2 0).1 (σ key2 0).2 z 0 es.length]=[.row (σ key2 0).1 (σ key2 0).2 z 0 es.length]:=by
        simp only[splice,List.take_zero,List.nil_append,List.length_cons,List.length_nil,Nat.zero_add]
        rw[List.drop_of_length_le (by omega)];rfl
       rw[hsp]
      ·exact h5.elim
     ·rename_i key2 t2 z m
      cases hkk:Nat.beq key key2<;>simp only[hkk,cond_true,cond_false]at h5
      cases hj:Nat.beq j 0<;>simp only[hj,cond_true,cond_false]at h5
      obtain rfl:=BP.1 hj
      obtain rfl:=BP.1 hkk
      obtain ⟨z',es,g0,h5⟩:=h5
      cases hz:Nat.beq z z'<;>simp only[hz,cond_true,cond_false]at h5
      obtain rfl:=BP.1 hz
      obtain ⟨⟨rfl,hi⟩,h5⟩:=h5
      have hb2:BB.blk σ key (.vw ((List.range rows.length).set i t2) rows)=⟨1,(CG σ key 0 rows).set i [.row (σ key (t2+1)).1 (σ key (t2+1)).2 z 0 es.length]⟩:=by
       simp only[BB.blk]
       congr 1
       apply List.ext_getElem?
       intro p
       rw[List.getElem?_map]
       by_cases hp:i=p
       ·subst hp
        rw[List.getElem?_set_self (by rw[List.length_range];exact hi),List.getElem?_set_self (by rw[EY];exact hi),Option.map_some,EX,g0]
        simp
       ·rw[List.getElem?_set_ne hp,List.getElem?_set_ne hp,EX]
        by_cases hp2:p<rows.length
        ·rw[List.getElem?_range hp2,Option.map_some,EX,zE hp2,Option.map_some,Option.getD_some]
        ·rw[List.getElem?_eq_none (by rw[List.length_range];omega),List.getElem?_eq_none (by omega)];rfl
      have hv:=hr.view (w:=(List.range rows.length).set i t2) hm (Or.inl rfl)
      have hlen:(CG σ key 0 rows)[i]? = some ((CG σ key 0 rows)[i]'(by rw[EY];exact hi)):=zE _
      have hone:((CG σ key 0 rows)[i]'(by rw[EY];exact hi)).length=1:=by
       have:=EX (σ:=σ) (k:=key) rows 0 i
       rw[hlen,zE hi]at this
       simp only[Option.map_some,Option.some.injEq]at this
       rw[this];split<;>rfl
      refine ⟨.tur (.tup []) (st.own.put s ((st.own s).upd (σ key 0).2 (some (BB.blk σ key (.vw ((List.range rows.length).set i t2) rows))))),_,_,_,fun C => ?_,h5,rfl,hv⟩
      rw[hb2]
      simp only[eff,hr.ev e (by intro e;cases e),DZ,hr.ev rfl h0,NR hc,List.length_map]
      rw[if_pos hn']
      simp only[AH.stp,AH.get,hs,hbk,BB.blk,hlen,List.map_cons,List.map_nil,List.length_cons,List.length_nil,BD]
      rw[if_pos (by omega)]
      simp only[Option.map_some]
      have hsp:splice ((CG σ key 0 rows)[i]'(by rw[EY];exact hi)) 0 [.row (σ key (t2+1)).1 (σ key (t2+1)).2 z 0 es.length]=[.row (σ key (t2+1)).1 (σ key (t2+1)).2 z 0 es.length]:=by
       simp only[splice,List.take_zero,List.nil_append,List.length_cons,List.length_nil,Nat.zero_add]
       rw[List.drop_of_length_le (by omega)];rfl
      rw[hsp]
     ·exact h5.elim
    ·rename_i i0 v0 rows
     split at h5
     ·rename_i key2 z m
      cases hkk:Nat.beq key key2<;>simp only[hkk,cond_true,cond_false]at h5
      cases hct:I6 key tm<;>simp only[hct,cond_true,cond_false]at h5
      cases hcm:HW key M<;>simp only[hcm,cond_true,cond_false]at h5
      cases hj:Nat.beq j 0<;>simp only[hj,cond_true,cond_false]at h5
      obtain rfl:=BP.1 hj
      split at h5
      ·rename_i s2 z' es hm2
       cases hz:Nat.beq z z'<;>simp only[hz,cond_true,cond_false]at h5
       obtain rfl:=BP.1 hz
       rw[MO]at h5
       obtain ⟨⟨rfl,rfl⟩,hi,h5⟩:=h5
       refine ⟨.tur (.tup []) (st.own.put s ((st.own s).upd (σ key 0).2 (some ⟨1,(CG σ key 0 rows).set i [.row (σ key2 0).1 (σ key2 0).2 z 0 es.length]⟩))),_,_,_,fun C => ?_,h5,rfl,hr.setm hm (Or.inr ⟨v0,rfl⟩) hm2 (FA.1 hkk) hct hcm hi⟩
       simp only[eff,hr.ev e (by intro e;cases e),DZ,hr.ev rfl h0,NR hc,List.length_map]
       rw[if_pos hn']
       simp only[AH.stp,AH.get,hs,hbk,BB.blk,List.getElem?_set_self (show i<(CG σ key 0 rows).length by rw[EY];exact hi),List.map_cons,List.map_nil,List.length_cons,List.length_nil,BD]
       rw[if_pos (by omega)]
       simp only[Option.map_some,List.set_set]
       rfl
      ·exact h5.elim
     ·exact h5.elim
    ·rename_i w rows
     split at h5
     ·rename_i key2 t2 z m
      cases hkk:Nat.beq key key2<;>simp only[hkk,cond_true,cond_false]at h5
      cases hj:Nat.beq j 0<;>simp only[hj,cond_true,cond_false]at h5
      obtain rfl:=BP.1 hj
      obtain rfl:=BP.1 hkk
      obtain ⟨z',es,g0,h5⟩:=h5
      cases hz:Nat.beq z z'<;>simp only[hz,cond_true,cond_false]at h5
      obtain rfl:=BP.1 hz
      obtain ⟨⟨rfl,hi,hwr⟩,h5⟩:=h5
      have hb2:BB.blk σ key (.vw (w.set i t2) rows)=⟨1,(w.map fun t=>((CG σ key 0 rows)[t]?).getD []).set i [.row (σ key (t2+1)).1 (σ key (t2+1)).2 z 0 es.length]⟩:=by
       simp only[BB.blk]
       congr 1
       apply List.ext_getElem?
       intro p
       rw[List.getElem?_map]
       by_cases hp:i=p
       ·subst hp
        rw[List.getElem?_set_self hi,List.getElem?_set_self (by rw[List.length_map];exact hi),Option.map_some,EX,g0]
        simp
       ·rw[List.getElem?_set_ne hp,List.getElem?_set_ne hp,List.getElem?_map]
      have hv:=hr.view (w:=w.set i t2) hm (Or.inr ⟨w,rfl⟩)
      have hlen:(w.map fun t=>((CG σ key 0 rows)[t]?).getD [])[i]? = some ((w.map fun t=>((CG σ key 0 rows)[t]?).getD [])[i]'(by rw[List.length_map];exact hi)):=zE _
      have hone:((w.map fun t=>((CG σ key 0 rows)[t]?).getD [])[i]'(by rw[List.length_map];exact hi)).length=1:=by
       rw[List.getElem_map]
       have hlt:=hwr w[i] (List.getElem_mem hi)
       rw[EX,zE hlt]
       simp only[Option.map_some,Option.getD_some]
       split<;>rfl
      refine ⟨.tur (.tup []) (st.own.put s ((st.own s).upd (σ key 0).2 (some (BB.blk σ key (.vw (w.set i t2) rows))))),_,_,_,fun C => ?_,h5,rfl,hv⟩
      rw[hb2]
      simp only[eff,hr.ev e (by intro e;cases e),DZ,hr.ev rfl h0,NR hc,List.length_map]
      rw[if_pos hn']
      simp only[AH.stp,AH.get,hs,hbk,BB.blk,hlen,List.map_cons,List.map_nil,List.length_cons,List.length_nil,BD]
      rw[if_pos (by omega)]
      simp only[Option.map_some]
      have hsp:splice ((w.map fun t=>((CG σ key 0 rows)[t]?).getD [])[i]'(by rw[List.length_map];exact hi)) 0 [.row (σ key (t2+1)).1 (σ key (t2+1)).2 z 0 es.length]=[.row (σ key (t2+1)).1 (σ key (t2+1)).2 z 0 es.length]:=by
       simp only[splice,List.take_zero,List.nil_append,List.length_cons,List.length_nil,Nat.zero_add]
       rw[List.drop_of_length_le (by omega)];rfl
      rw[hsp]
     ·exact h5.elim
   ·rename_i i'
    split at h5
    ·rename_i rows
     cases hd:D4 vs<;>simp only[hd,cond_true,cond_false]at h5
     obtain ⟨z,es,g0,cs,g1,g2,g3,h5⟩:=h5
     have hbk:=hr.sat.blk key (i'+1) (.rw z es) (by simp [mref,hm,g0])
     refine ⟨.tur (.tup []) (st.own.put (σ key (i'+1)).1 ((st.own (σ key (i'+1)).1).upd (σ key (i'+1)).2 (some ⟨z,es.set i (splice cs j vs)⟩))),σ,_,_,fun C => ?_,h5,rfl,hr.putm hm g0 g3⟩
     simp only[eff,hr.ev e (by intro e;cases e),DZ,hr.ev rfl h0,NR hc,IO hd]
     rw[if_pos hn']
     simp only[AH.stp,AH.get,hbk,BB.blk,g1]
     rw[if_pos g2]
     rfl
    ·exact h5.elim
  ·exact h5.elim
 ·exact h.elim
theorem vX {s z bytes:Nat} {zero:List AV} {a c:AQ} (hr:RX σ tm M st) (h:XE L tm M ban K (.mk s z bytes zero a c)):BS L tm ban K (.mk s z bytes zero a c) st:=by
 simp only[XE]at h
 split at h
 ·rename_i k1 p k2 q e1 e2
  cases hz:Nat.beq zero.length z<;>simp only[hz,cond_true,cond_false]at h
  cases hd:D4 zero<;>simp only[hd,cond_true,cond_false]at h
  split at h
  ·cases hlw:EO s<;>simp only[hlw,cond_true,cond_false]at h
   obtain ⟨⟨g1,g2,g3,g4⟩,h⟩:=h
   obtain ⟨k,h1,h2,h3⟩:=G2 h
   have hfl:BB.flat (.mx (List.replicate p.toNat none)):=by
    intro i x hx
    have:=List.getElem?_replicate (n:=p.toNat) (a:=(none:Option (Nat × List (List AV)))) (i:=i)
    rw[this]at hx
    split at hx<;>cases hx
   have hz1:z=1:=(BP.1 hz).symm
   have hbl:BB.blk σ k (.mx (List.replicate p.toNat none))=⟨z,List.replicate p.toNat [.nil]⟩:=by
    simp only[BB.blk,hz1]
    congr 1
    have : ∀ (n i:Nat),CG σ k i (List.replicate n none)=List.replicate n [AV.nil]:=by
     intro n
     induction n with
     | zero=>intro i;rfl
     | succ n ih=>intro i;rw[List.replicate_succ,List.replicate_succ,CG,ih]
    exact this _ _
   refine ⟨.new s (BB.blk σ k (.mx (List.replicate p.toNat none))) (fun t => .row s t z 0 p.toNat),_,_,_,fun C => ?_,h3,?_,hr.newq h1 h2 (.mx _) hfl rfl (fun _=>hlw)⟩
   ·simp only[eff,hr.ev e1 (by intro e;cases e),hr.ev e2 (by intro e;cases e),GM,hbl]
    rw[if_pos ⟨g1,g2,g3,g4,BP.1 hz⟩]
   ·simp only[CP.res,C9,BT]
  ·cases hlw:EO s<;>simp only[hlw,cond_true,cond_false]at h
   obtain ⟨⟨g1,g2,g3,g4⟩,h⟩:=h
   obtain ⟨k,h1,h2,h3⟩:=G2 h
   refine ⟨.new s ⟨z,List.replicate p.toNat zero⟩ (fun t => .row s t z 0 p.toNat),_,_,_,fun C => ?_,h3,?_,hr.newq h1 h2 (.rw z _) trivial rfl (fun _=>hlw)⟩
   ·simp only[eff,hr.ev e1 (by intro e;cases e),hr.ev e2 (by intro e;cases e),GM]
    rw[if_pos ⟨g1,g2,g3,g4,BP.1 hz⟩]
   ·simp only[CP.res,C9,BT]
 ·exact h.elim
theorem lJ {v:AV} {K:AV->Prop} (h:f2 v K):v ≠ .any/\BJ σ v=BW σ v/\K v:=by
 cases v<;>simp only[f2,GT]at h<;>first|exact h.elim|exact ⟨(by intro e;cases e),rfl,h⟩
theorem nA : ∀ (vs:List AV) (i:Nat),lget vs i ≠ .any->vs[i]? = some (lget vs i)
 | [],_,h=>absurd rfl h
 | _::_,0,_=>rfl
 | _::r,i+1,h=>nA r i h
theorem vO {x:AQ} {i:Nat} (hr:RX σ tm M st) (h:XE L tm M ban K (.ext x i)):BS L tm ban K (.ext x i) st:=by
 simp only[XE]at h
 split at h
 ·rename_i vs e
  obtain ⟨h1,h2,h3⟩:=lJ (σ:=σ) h
  refine BS.val hr _ (fun C => ?_) h3
  simp only[eff,hr.ev e (by intro e;cases e),HS,List.getElem?_map,nA vs i h1,Option.map_some,h2]
 ·exact h.elim
theorem vW {x:AQ} (hr:RX σ tm M st) (h:XE L tm M ban K (.len x)):BS L tm ban K (.len x) st:=by
 simp only[XE]at h
 split at h
 ·rename_i q es e
  exact BS.val hr _ (fun C=>by simp only[eff,hr.ev e (by intro e;cases e),GN,lenOf];rfl) h
 ·rename_i e
  exact BS.val hr _ (fun C=>by simp only[eff,hr.ev e (by intro e;cases e),E1,lenOf];rfl) h
 ·rename_i e
  exact BS.val hr _ (fun C=>by simp only[eff,hr.ev e (by intro e;cases e),C9,lenOf];rfl) h
 ·exact h.elim
theorem nV {mx:Bool} {k:IntKind} {K:AV->Prop} : ∀ {l:List AV} {a:Int},QQ mx k K a l -> ∃ n,MR mx (.int k a) l=some (.int k n)/\K (.int k n)/\(∀ v∈l,v ≠ .any/\BJ σ v=v)
 | [],a,h=>⟨a,rfl,h,fun v hv=>by cases hv⟩
 | v::r,a,h=>by
  cases v with
  | int k' b =>
   have h:(bif mx then AF (a<b) (b<=a) (QQ mx k K b r) (QQ mx k K a r) else AF (b<a) (a<=b) (QQ mx k K b r) (QQ mx k K a r)):=h
   have fin : ∀ c:Int,OP mx (.int k a) (.int k' b)=some (.int k c)->QQ mx k K c r -> ∃ n,MR mx (.int k a) (.int k' b::r)=some (.int k n)/\K (.int k n)/\(∀ v∈AV.int k' b::r,v ≠ .any/\BJ σ v=v):=by
    intro c hc hx
    obtain ⟨n,h1,h2,h3⟩:=nV hx
    refine ⟨n,by simp only[MR,hc,h1],h2,fun v hv => ?_⟩
    rcases List.mem_cons.1 hv with rfl|hv
    ·exact ⟨(by intro e;cases e),rfl⟩
    ·exact h3 v hv
   cases mx
   ·simp only[cond_false]at h
    by_cases hc:b<a
    ·exact fin b (by simp [OP,hc]) (h.1 hc)
    ·exact fin a (by simp [OP,hc]) (h.2 (by omega))
   ·simp only[cond_true]at h
    by_cases hc:a<b
    ·exact fin b (by simp [OP,hc]) (h.1 hc)
    ·exact fin a (by simp [OP,hc]) (h.2 (by omega))
  | _=>exact (h:False).elim
theorem vZ {mx:Bool} {xs:List AQ} (hr:RX σ tm M st) (h:XE L tm M ban K (.mm mx xs)):BS L tm ban K (.mm mx xs) st:=by
 simp only[XE]at h
 split at h
 ·rename_i k a r e
  obtain ⟨n,h1,h2,h3⟩:=nV (σ:=σ) h
  refine BS.val hr (.int k n) (fun C => ?_) h2
  have hx : ∀ v∈PC tm xs,v ≠ .any:=by
   rw[e]
   intro v hv
   rcases List.mem_cons.1 hv with rfl|hv
   ·intro e;cases e
   ·exact (h3 v hv).1
  have hm:(PC tm xs).map (BJ σ) = .int k a::r:=by
   rw[e,List.map_cons]
   congr 1
   conv=>rhs;rw[<-List.map_id r]
   exact List.map_congr_left fun v hv=>(h3 v hv).2
  simp only[eff]
  rw[show xs.map st.ev = .int k a::r from (evL hr hx).trans hm]
  simp only[h1,Option.map_some,GM]
 ·exact h.elim
theorem Agk (hr:RX σ tm M st) {k t:Nat} {K:Nat->List (List AV)->Prop} (h:cW M k t K) : ∃ z es,(st.own (σ k t).1).blk (σ k t).2=some ⟨z,es⟩/\K z es:=by
 unfold cW at h
 split at h
 ·rename_i s c hm
  split at h
  ·split at h
   ·exact ⟨_,_,hr.sat.blk _ _ _ (DU hm),h⟩
   ·exact h.elim
  ·rename_i i
   split at h
   ·rename_i rows
    obtain ⟨z,es,g,h⟩:=h
    exact ⟨z,es,hr.sat.blk k (i+1) (.rw z es) (by simp [mref,hm,g]),h⟩
   ·exact h.elim
 ·exact h.elim
theorem AgJ {own own':AH} {s t i j:Nat} {vs:List AV} (h:own.stp s t i j vs=some own'):own.put s (own' s)=own':=by
 unfold AH.stp at h
 cases hg:own.get s t with
 | none=>simp [hg]at h
 | some b =>
  simp only[hg]at h
  cases he:b.es[i]? with
  | none=>simp [he]at h
  | some cs =>
   simp only[he]at h
   split at h
   ·obtain rfl:=Option.some.inj h
    rw[AH.put_same]
   ·cases h
theorem wF {s n:Nat} {x v:AQ} (hr:RX σ tm M st) (h:XE L tm M ban K (.sto s n x v)):BS L tm ban K (.sto s n x v) st:=by
 simp only[XE]at h
 split at h
 ·rename_i key i j e1
  split at h
  ·rename_i s' c hm
   cases hb:Nat.beq s' s<;>simp only[hb,cond_true,cond_false]at h
   obtain rfl:=BP.1 hb
   have hsite:=hr.sat.site _ _ _ hm
   obtain ⟨E,σ',v',M',h1,h2,h3,h4⟩:=fD (ban:=ban) (L:=L) hr (show XE L tm M ban K (.st n x v) from h)
   have hev:=hr.ev e1 (by intro e;cases e)
   rw[DZ,hsite]at hev
   have key : ∀ vs,cellsOf (st.ev v)=some vs->vs.length=n -> ∃ o',st.own.stp s' (σ key 0).2 i j vs=some o'/\E = .tur (.tup []) o':=fun vs hvs hn=>by
    have:=h1 0
    simp only[eff,hev,hvs]at this
    rw[if_pos hn,Option.map_eq_some_iff]at this
    obtain ⟨o',a1,a2⟩:=this
    exact ⟨o',a1,a2.symm⟩
   cases hvs:cellsOf (st.ev v) with
   | none=>have:=h1 0;simp [eff,hev,hvs]at this
   | some vs =>
    by_cases hn:vs.length=n
    ·obtain ⟨o',a1,rfl⟩:=key vs hvs hn
     refine ⟨.upd s' (o' s'),σ',v',M',fun C => ?_,h2,h3,?_⟩
     ·simp only[eff,hev,hvs]
      rw[if_pos ⟨trivial,hn⟩,a1];rfl
     ·have e2:(CP.res st.own (.upd s' (o' s'))).2=o':=AgJ a1
      rw[e2]
      exact h4
    ·have:=h1 0
     simp only[eff,hev,hvs]at this
     rw[if_neg hn]at this
     cases this
  ·exact h.elim
 ·exact h.elim
theorem vU {ne:Bool} {x:AQ} (hr:RX σ tm M st) (h:XE L tm M ban K (.isn ne x)):BS L tm ban K (.isn ne x) st:=by
 simp only[XE]at h
 split at h
 ·rename_i e1
  rw[OL]at h
  exact BS.val hr _ (fun C=>by simp only[eff,hr.ev e1 (by intro e;cases e),E1,GL]) h
 ·rename_i b e1
  rw[OL]at h
  exact BS.val hr _ (fun C=>by simp only[eff,hr.ev e1 (by intro e;cases e),Agl,GL]) h
 ·rename_i q es e1
  obtain ⟨h0,h⟩:=h
  rw[OL]at h
  cases es with
  | nil=>exact absurd rfl h0
  | cons e es=>exact BS.val hr _ (fun C=>by simp only[eff,hr.ev e1 (by intro e;cases e),GN,GL]) h
 ·rename_i s t z o n e1
  obtain ⟨h0,h⟩:=h
  rw[OL]at h
  cases n with
  | zero=>exact absurd h0 (by omega)
  | succ n=>exact BS.val hr _ (fun C=>by simp only[eff,hr.ev e1 (by intro e;cases e),C9,GL]) h
 ·exact h.elim
theorem wB {x:AQ} (hr:RX σ tm M st) (h:XE L tm M ban K (.nck x)):BS L tm ban K (.nck x) st:=by
 simp only[XE]at h
 split at h
 ·rename_i key t i j e
  exact BS.val hr _ (fun C=>by simp only[eff,hr.ev e (by intro e;cases e),DZ]) h
 ·exact h.elim
theorem vL {x:AQ} (hr:RX σ tm M st) (h:XE L tm M ban K (.capn x)):BS L tm ban K (.capn x) st:=by
 simp only[XE]at h
 split at h
 ·rename_i e
  exact BS.val hr _ (fun C=>by simp only[eff,hr.ev e (by intro e;cases e),E1];rfl) h
 ·exact h.elim
theorem vF {s z bytes:Nat} {x y:AQ} (hr:RX σ tm M st) (h:XE L tm M ban K (.apz s z bytes x y)):BS L tm ban K (.apz s z bytes x y) st:=by
 simp only[XE]at h
 split at h
 ·rename_i k n e1 e2
  cases hlw:EO s<;>simp only[hlw,cond_true,cond_false]at h
  obtain ⟨⟨g1,g2,g3⟩,h⟩:=h
  obtain ⟨k,h1,h2,h3⟩:=G2 h
  refine ⟨.new s ⟨z,[]⟩ (fun t => .row s t z 0 n.toNat),_,_,_,fun C => ?_,h3,?_,hr.newq h1 h2 (.rw z []) trivial rfl (fun _=>hlw)⟩
  ·simp only[eff,hr.ev e1 (by intro e;cases e),hr.ev e2 (by intro e;cases e),GM,E1]
   rw[if_pos ⟨g1,g2,g3⟩]
  ·simp only[CP.res,C9,BT]
 ·exact h.elim
theorem vB {s z bytes:Nat} {x y:AQ} (hr:RX σ tm M st) (h:XE L tm M ban K (.apd s z bytes x y)):BS L tm ban K (.apd s z bytes x y) st:=by
 simp only[XE]at h
 split at h
 ·rename_i q ys e1 e2
  cases hlw:EO s<;>simp only[hlw,cond_true,cond_false]at h
  obtain ⟨g1,g2,g3,g4,h⟩:=h
  obtain ⟨k,h1,h2,h3⟩:=G2 h
  refine ⟨.new s ⟨z,ys⟩ (fun t => .row s t z 0 ys.length),_,_,_,fun C => ?_,h3,?_,hr.newq h1 h2 (.rw z ys) trivial rfl (fun _=>hlw)⟩
  ·simp only[eff,hr.ev e1 (by intro e;cases e),hr.ev e2 (by intro e;cases e),E1,GN]
   rw[if_pos ⟨g1,g4,g2,g3⟩]
  ·simp only[CP.res,C9,BT]
 ·exact h.elim
theorem wD {tb:List Nat} {x:AQ} (hr:RX σ tm M st) (h:XE L tm M ban K (.sidx tb x)):BS L tm ban K (.sidx tb x) st:=by
 simp only[XE]at h
 split at h
 ·rename_i k n e1
  obtain ⟨h0,v,h1,h2⟩:=h
  exact BS.val hr _ (fun C=>by simp only[eff,hr.ev e1 (by intro e;cases e),GM,h1];rw[if_pos h0]) h2
 ·exact h.elim
theorem AbL {v:AV} {K:AV->Prop} (h:fF v K):v ≠ .any/\GW (BJ σ v)=some (BD σ v)/\K v:=by
 cases v<;>first|exact (h:False).elim|exact ⟨(by intro e;cases e),rfl,h⟩
theorem oM (hr:RX σ tm M st) : ∀ {l:List AQ} {K:List AV->Prop},bZ tm l K -> ∃ cs,l.mapM (fun x=>GW (st.ev x))=some (cs.map (BD σ))/\K cs
 | [],K,h=>⟨[],rfl,h⟩
 | x::r,K,h=>by
  obtain ⟨h0,hc,h⟩:=AbL (σ:=σ) (show fF (ex tm x) fun v=>bZ tm r fun cs=>K (v::cs) from h)
  obtain ⟨cs,h1,h2⟩:=oM hr h
  refine ⟨ex tm x::cs,?_,h2⟩
  rw[List.mapM_cons,h1,hr.ev rfl h0,hc];rfl
theorem vY {p:Bool} {f:Nat} {xs:List AQ} (hr:RX σ tm M st) (h:XE L tm M ban K (.mkf p f xs)):BS L tm ban K (.mkf p f xs) st:=by
 simp only[XE]at h
 obtain ⟨cs,h1,h2⟩:=oM hr h
 exact BS.val hr _ (fun C=>by simp only[eff,h1,Option.map_some,cX];rfl) h2
theorem jR (hr:RX σ tm M st) {v:AV} {K:List (List AV)->Prop} (h:TT M v K):v ≠ .any /\ ∃ es,D9 st.own (BJ σ v)=some es/\K es:=by
 cases v with
 | sl q es=>exact ⟨(by intro e;cases e),_,rfl,h⟩
 | nil=>exact ⟨(by intro e;cases e),_,rfl,h⟩
 | con v =>
  cases v with
  | bool b=>exact ⟨(by intro e;cases e),_,rfl,h⟩
  | _=>exact (h:False).elim
 | row key t z off len =>
  simp only[TT]at h
  obtain ⟨z',es,g,h⟩:=Agk hr h
  cases hz:Nat.beq z z'<;>simp only[hz,cond_true,cond_false]at h
  obtain rfl:=BP.1 hz
  refine ⟨(by intro e;cases e),_,?_,h.2⟩
  simp only[C9,D9,AH.get,g]
  rw[if_pos ⟨h.1,trivial⟩]
 | _=>exact (h:False).elim
theorem cA (hr:RX σ tm M st) {o:Option AQ} {K:Option Int->Prop} (h:XC tm o K):(o=none/\K none) \/ ∃ x k n,o=some x/\st.ev x = .int k n/\K (some n):=by
 unfold XC at h
 split at h
 ·exact Or.inl ⟨rfl,h⟩
 ·split at h
  ·rename_i e
   exact Or.inr ⟨_,_,_,rfl,hr.ev e (by intro e;cases e),h⟩
  ·exact h.elim
theorem wE {z:Nat} {x:AQ} {lo hi:Option AQ} (hr:RX σ tm M st) (h:XE L tm M ban K (.slc z x lo hi)):BS L tm ban K (.slc z x lo hi) st:=by
 simp only[XE]at h
 have go : ∀ (a b:Option Int),(match ex tm x with
   | .sl l es=>BQ z es a b fun es=>K (.sl l es) M
   | .row key t z' off len=>bif Nat.beq z' z then BG a b len fun a h=>K (.row key t z (off+a) (h-a)) M else False
   | .nil=>(match a,b with
    | none,none=>K .nil M
    | some a,none=>AR (a=0) (K .nil M)
    | none,some h=>AR (h=0) (K .nil M)
    | some a,some h=>AR (a=0/\h=0) (K .nil M))
   | _=>False)->(lo=none/\a=none \/ ∃ y k n,lo=some y/\st.ev y = .int k n/\a=some n)->(hi=none/\b=none \/ ∃ y k n,hi=some y/\st.ev y = .int k n/\b=some n)->BS L tm ban K (.slc z x lo hi) st:=by
  intro a b h ha hb
  split at h
  ·rename_i q es e
   obtain ⟨g1,a',h',g2,g3,g4,h⟩:=h
   refine BS.val hr _ (fun C => ?_) h
   rcases ha with ⟨rfl,rfl⟩|⟨y,k,n,rfl,e1,rfl⟩<;>rcases hb with ⟨rfl,rfl⟩|⟨y',k',n',rfl,e2,rfl⟩<;>try simp only at g2 g3<;>simp only[eff,hr.ev e (by intro e;cases e),GN, *]<;>simp_all
  ·rename_i key t z' off len e
   cases hz:Nat.beq z' z<;>simp only[hz,cond_true,cond_false]at h
   obtain rfl:=BP.1 hz
   obtain ⟨a',h',g2,g3,g4,h⟩:=h
   refine BS.val hr _ (fun C => ?_) h
   rcases ha with ⟨rfl,rfl⟩|⟨y,k,n,rfl,e1,rfl⟩<;>rcases hb with ⟨rfl,rfl⟩|⟨y',k',n',rfl,e2,rfl⟩<;>try simp only at g2 g3<;>simp only[eff,hr.ev e (by intro e;cases e),C9, *]<;>simp_all
  ·rename_i e
   rcases ha with ⟨rfl,rfl⟩|⟨y,k,n,rfl,e1,rfl⟩<;>rcases hb with ⟨rfl,rfl⟩|⟨y',k',n',rfl,e2,rfl⟩<;>simp only at h
   ·exact BS.val hr .nil (fun C=>by simp only[eff,hr.ev e (by intro e;cases e),E1]) h
   ·exact BS.val hr .nil (fun C=>by simp only[eff,hr.ev e (by intro e;cases e),E1,e2,h.1,if_true]) h.2
   ·exact BS.val hr .nil (fun C=>by simp only[eff,hr.ev e (by intro e;cases e),E1,e1,h.1,if_true]) h.2
   ·exact BS.val hr .nil (fun C=>by simp only[eff,hr.ev e (by intro e;cases e),E1,e1,e2,h.1.1,h.1.2,if_true]) h.2
  ·exact h.elim
 rcases cA hr h with ⟨h1,h⟩|⟨y,k,n,h1,h2,h⟩
 ·rcases cA hr h with ⟨g1,h⟩|⟨y,k,n,g1,g2,h⟩
  ·exact go _ _ h (Or.inl ⟨h1,rfl⟩) (Or.inl ⟨g1,rfl⟩)
  ·exact go _ _ h (Or.inl ⟨h1,rfl⟩) (Or.inr ⟨_,_,_,g1,g2,rfl⟩)
 ·rcases cA hr h with ⟨g1,h⟩|⟨y',k',n',g1,g2,h⟩
  ·exact go _ _ h (Or.inr ⟨_,_,_,h1,h2,rfl⟩) (Or.inl ⟨g1,rfl⟩)
  ·exact go _ _ h (Or.inr ⟨_,_,_,h1,h2,rfl⟩) (Or.inr ⟨_,_,_,g1,g2,rfl⟩)
theorem XN {s key:Nat} : ∀ {M:Mem},GK s M=false->GK s (mdel key M)=false
 | [],_=>rfl
 | (i,s0,c0)::r,h=>by
  simp only[GK]at h
  cases q0:Nat.beq s i<;>simp only[q0,cond_true,cond_false]at h
  ·cases q1:HQ s c0<;>simp only[q1,cond_true,cond_false]at h
   ·simp only[mdel]
    cases Nat.beq key i
    ·simp only[cond_false,GK,q0,q1,XN h]
    ·simp only[cond_true,XN h]
   ·cases h
  ·cases h
theorem vD {s z bytes:Nat} {x y:AQ} (hr:RX σ tm M st) (h:TT M (ex tm y) fun ys=>match ex tm x with
   | .row key 0 z' off len=>bif Nat.beq off 0 then bif Nat.beq z' z then (match mget M key with
    | some (s',.rw z'' es)=>bif Nat.beq z'' z then fM (mdel key M) fun M'=>(BK es len ys z bytes fun es' n=>FP s tm M fun k=>K (.row k 0 z 0 n) ((k,s',.rw z es')::M')) else False
    | _=>False) else False else False
   | .row key (i+1) z' off len=>bif Nat.beq off 0 then bif Nat.beq z' z then (match mget M key with
    | some (sk,.mx rows)=>fM (mdel key M) fun M'=>BF rows i fun z'' es=>bif Nat.beq z'' z then (BK es len ys z bytes fun es' n => ∀ s' v,FP s tm M fun k=>K (.row k 0 z 0 n) ((k,s',.rw z es')::(key,sk,.hx i v (rows.set i none))::M')) else False
    | _=>False) else False else False
   | .nil=>bif EO s then BV ys z bytes fun es n=>FP s tm M fun k=>K (.row k 0 z 0 n) ((k,s,.rw z es)::M) else False
   | _=>False):BS L tm ban K (.app s z bytes x y) st:=by
 obtain ⟨h0,ys,hy,h⟩:=jR hr h
 have hy':D9 st.own (st.ev y)=some ys:=by rw[hr.ev rfl h0];exact hy
 split at h
 ·rename_i key z' off len e
  cases ho:Nat.beq off 0<;>simp only[ho,cond_true,cond_false]at h
  cases hz:Nat.beq z' z<;>simp only[hz,cond_true,cond_false]at h
  obtain rfl:=BP.1 ho
  obtain rfl:=BP.1 hz
  split at h
  ·rename_i s' z'' es hm
   cases hz2:Nat.beq z'' z'<;>simp only[hz2,cond_true,cond_false]at h
   obtain rfl:=BP.1 hz2
   rw[MO]at h
   obtain ⟨g1,g2,g3,g4,h⟩:=h
   obtain ⟨k,h1,h2,h3⟩:=G2 h
   have hs:=hr.sat.site _ _ _ hm
   have hbk:=hr.sat.blk _ _ _ (DU hm)
   have hn:=(hr.kill hm).newq (s:=k) (q:=s') (XN h1) h2 (.rw z'' (es.take len++ys)) trivial rfl (fun _=>by have:=hr.sat.low _ _ _ (DU hm) rfl;rwa [hs]at this)
   have ecnt:(st.own.put s' ((st.own s').upd (σ key 0).2 none)).cnt s'=st.own.cnt s':=by simp [AH.cnt,AH.put_same,CO.upd]
   simp only[AH.put_same,AH.put_put,ecnt]at hn
   refine ⟨.tur (.row s' (st.own.cnt s') z'' 0 (len+ys.length)) (st.own.put s' (((st.own s').upd (σ key 0).2 none).new ⟨z'',es.take len++ys⟩)),_,_,_,fun C => ?_,h3,?_,hn⟩
   ·rw[hs]at hbk
    simp only[eff,hy',hr.ev e (by intro e;cases e),C9,AH.get,hs,hbk,BB.blk]
    rw[if_pos g2,if_pos ⟨trivial,trivial,g1,g3,g4⟩]
   ·simp only[CP.res,C9,BT]
  ·exact h.elim
 ·rename_i key i z' off len e
  cases ho:Nat.beq off 0<;>simp only[ho,cond_true,cond_false]at h
  cases hz:Nat.beq z' z<;>simp only[hz,cond_true,cond_false]at h
  obtain rfl:=BP.1 ho
  obtain rfl:=BP.1 hz
  split at h
  ·rename_i sk rows hm
   rw[MO]at h
   obtain ⟨z'',es,g0,h⟩:=h
   cases hz2:Nat.beq z'' z'<;>simp only[hz2,cond_true,cond_false]at h
   obtain rfl:=BP.1 hz2
   obtain ⟨g1,g2,g3,g4,h⟩:=h
   have h:=h (σ key (i+1)).1 (.row (σ key (i+1)).1 (σ key (i+1)).2 z'' 0 es.length)
   obtain ⟨k,h1,h2,h3⟩:=G2 h
   have hbk:=hr.sat.blk key (i+1) (.rw z'' es) (by simp [mref,hm,g0])
   have hn:=hr.appc (s:=k) (es':=es.take len++ys) hm g0 h1 h2
   refine ⟨.tur (.row (σ key (i+1)).1 (st.own.cnt (σ key (i+1)).1) z'' 0 (len+ys.length)) (st.own.put (σ key (i+1)).1 (((st.own (σ key (i+1)).1).upd (σ key (i+1)).2 none).new ⟨z'',es.take len++ys⟩)),_,_,_,fun C => ?_,h3,?_,hn⟩
   ·simp only[eff,hy',hr.ev e (by intro e;cases e),C9,AH.get,hbk,BB.blk]
    rw[if_pos g2,if_pos ⟨trivial,trivial,g1,g3,g4⟩]
   ·simp only[CP.res,C9,BT]
  ·exact h.elim
 ·rename_i e
  cases hlw:EO s<;>simp only[hlw,cond_true,cond_false]at h
  obtain ⟨g2,g3,g4,h⟩:=h
  obtain ⟨k,h1,h2,h3⟩:=G2 h
  refine ⟨.tur (.row s (st.own.cnt s) z 0 ys.length) (st.own.put s ((st.own s).new ⟨z,ys⟩)),_,_,_,fun C => ?_,h3,?_,hr.newq h1 h2 (.rw z ys) trivial rfl (fun _=>hlw)⟩
  ·simp only[eff,hy',hr.ev e (by intro e;cases e),E1]
   rw[if_pos g2,if_pos ⟨g3,g4⟩]
  ·simp only[CP.res,C9,BT]
 ·exact h.elim
theorem vE {s z bytes:Nat} {x y:AQ} (hr:RX σ tm M st) (h:XE L tm M ban K (.appo s z bytes x y)):BS L tm ban K (.appo s z bytes x y) st:=by
 simp only[XE]at h
 split at h
 ·rename_i l ys ey
  split at h
  ·rename_i key z' off len e
   cases ho:Nat.beq off 0<;>simp only[ho,cond_true,cond_false]at h
   cases hz:Nat.beq z' z<;>simp only[hz,cond_true,cond_false]at h
   obtain rfl:=BP.1 ho
   obtain rfl:=BP.1 hz
   split at h
   ·rename_i s' z'' es hm
    cases hs0:Nat.beq s' s<;>simp only[hs0,cond_true,cond_false]at h
    cases hz2:Nat.beq z'' z'<;>simp only[hz2,cond_true,cond_false]at h
    obtain rfl:=BP.1 hs0
    obtain rfl:=BP.1 hz2
    rw[MO]at h
    obtain ⟨g1,g2,g3,g4,h⟩:=h
    obtain ⟨k,h1,h2,h3⟩:=G2 h
    have hs:=hr.sat.site _ _ _ hm
    have hbk:=hr.sat.blk _ _ _ (DU hm)
    have hn:=(hr.kill hm).newq (s:=k) (q:=s') (XN h1) h2 (.rw z'' (es.take len++ys)) trivial rfl (fun _=>by have:=hr.sat.low _ _ _ (DU hm) rfl;rwa [hs]at this)
    have ecnt:(st.own.put s' ((st.own s').upd (σ key 0).2 none)).cnt s'=st.own.cnt s':=by simp [AH.cnt,AH.put_same,CO.upd]
    simp only[AH.put_same,AH.put_put,ecnt]at hn
    refine ⟨.upn s' (((st.own s').upd (σ key 0).2 none).new ⟨z'',es.take len++ys⟩) (.row s' (st.own.cnt s') z'' 0 (len+ys.length)),_,_,_,fun C => ?_,h3,?_,hn⟩
    ·rw[hs]at hbk
     simp only[eff,hr.ev ey (by intro e;cases e),GN,hr.ev e (by intro e;cases e),C9,AH.get,hs,hbk,BB.blk]
     rw[if_pos ⟨trivial,g2,trivial,trivial,g1,g3,g4⟩]
    ·simp only[CP.res,C9,BT]
   ·exact h.elim
  ·exact h.elim
 ·exact h.elim
theorem wR {v:AV} {ky k2 z n:Nat} (h:P7 M v=some (ky,some (k2,z,n))):v = .row ky 0 1 0 1 /\ ∃ sy,mget M ky=some (sy,.bs 1 [[.row k2 0 z 0 n]]):=by
 unfold P7 at h
 split at h
 ·split at h
  ·rename_i hm
   simp only[Option.some.injEq,Prod.mk.injEq]at h
   obtain ⟨rfl,rfl,rfl,rfl⟩:=h
   exact ⟨rfl,_,hm⟩
  ·simp at h
  ·cases h
 ·cases h
theorem wP {v:AV} {ky:Nat} (h:P7 M v=some (ky,none)):v = .row ky 0 1 0 1 /\ ∃ sy,mget M ky=some (sy,.rw 1 [[.nil]]):=by
 unfold P7 at h
 split at h
 ·split at h
  ·simp at h
  ·rename_i hm
   simp only[Option.some.injEq,Prod.mk.injEq,and_true]at h
   subst h
   exact ⟨rfl,_,hm⟩
  ·cases h
 ·cases h
theorem vC {s z bytes:Nat} {x y:AQ} (hr:RX σ tm M st) (h:XE L tm M ban K (.app s z bytes x y)):BS L tm ban K (.app s z bytes x y) st:=by
 simp only[XE]at h
 split at h
 ·rename_i ky k2 z2 n2 hap
  obtain ⟨hy0,sy,hmy⟩:=wR hap
  have hsy:=hr.sat.site _ _ _ hmy
  have hby:=hr.sat.blk _ _ _ (DU hmy)
  rw[hsy]at hby
  have hyy:D9 st.own (st.ev y)=some [[.row (σ k2 0).1 (σ k2 0).2 z2 0 n2]]:=by
   rw[hr.ev hy0 (by intro e;cases e)]
   simp only[C9,D9,AH.get,hsy,hby,BB.blk,BD,List.map_cons,List.map_nil,List.length_cons,List.length_nil]
   simp
  split at h
  ·rename_i key z' off len e
   cases ho:Nat.beq off 0<;>simp only[ho,cond_true,cond_false]at h
   cases hz:Nat.beq z' 1<;>simp only[hz,cond_true,cond_false]at h
   cases hz1:Nat.beq z 1<;>simp only[hz1,cond_true,cond_false]at h
   cases hk2:Nat.beq key k2<;>simp only[hk2,cond_true,cond_false]at h
   cases hky:Nat.beq key ky<;>simp only[hky,cond_true,cond_false]at h
   cases hk3:Nat.beq k2 ky<;>simp only[hk3,cond_true,cond_false]at h
   obtain rfl:=BP.1 ho
   obtain rfl:=BP.1 hz
   obtain rfl:=BP.1 hz1
   split at h
   ·rename_i s2 z3 es hm2
    cases hz3:Nat.beq z2 z3<;>simp only[hz3,cond_true,cond_false]at h
    obtain rfl:=BP.1 hz3
    split at h
    ·rename_i s' rows hm
     rw[MO]at h
     obtain ⟨rfl,rfl,g3,g4,h⟩:=h
     obtain ⟨k,h1,h2,h3⟩:=G2 h
     have hs:=hr.sat.site _ _ _ hm
     have hbk:=hr.sat.blk _ _ _ (DU hm)
     rw[hs]at hbk
     refine ⟨.tur (.row s' (st.own.cnt s') 1 0 (rows.length+1)) (st.own.put s' (((st.own s').upd (σ key 0).2 none).new ⟨1,CG σ key 0 rows++[[.row (σ k2 0).1 (σ k2 0).2 z2 0 es.length]]⟩)),_,_,_,fun C => ?_,h3,?_,hr.appm (ky:=ky) hm hm2 (FA.1 hk2) h1 h2⟩
     ·simp only[eff,hyy,hr.ev e (by intro e;cases e),C9,AH.get,hs,hbk,BB.blk]
      rw[if_pos (by simp),if_pos ⟨trivial,trivial,by rw[EY];exact Nat.le_refl _,by simpa using g3,by simpa using g4⟩]
      rw[List.take_of_length_le (by rw[EY];exact Nat.le_refl _)]
      rfl
     ·simp only[CP.res,C9,BT]
    ·exact h.elim
   ·exact h.elim
  ·rename_i e
   cases hlw:EO s<;>simp only[hlw,cond_true,cond_false]at h
   cases hz1:Nat.beq z 1<;>simp only[hz1,cond_true,cond_false]at h
   obtain rfl:=BP.1 hz1
   split at h
   ·rename_i s2 z3 es hm2
    cases hz3:Nat.beq z2 z3<;>simp only[hz3,cond_true,cond_false]at h
    obtain rfl:=BP.1 hz3
    rw[MO]at h
    obtain ⟨⟨rfl,g3⟩,h⟩:=h
    obtain ⟨k,h1,h2,h3⟩:=G2 h
    obtain ⟨σ',q1,q2⟩:=hr.newm (q:=s) hm2 (fun e=>(Q1 h1 _ _ _ hm2).1 e.symm) h1 h2 hlw
    refine ⟨.tur (.row s (st.own.cnt s) 1 0 1) (st.own.put s ((st.own s).new ⟨1,[[.row (σ k2 0).1 (σ k2 0).2 z2 0 es.length]]⟩)),σ',_,_,fun C => ?_,h3,?_,q2⟩
    ·simp only[eff,hyy,hr.ev e (by intro e;cases e),E1]
     rw[if_pos (by simp),if_pos ⟨by simpa [EJ] using g3,by simp⟩]
     rfl
    ·simp only[CP.res,C9,q1]
   ·exact h.elim
  ·exact h.elim
 ·rename_i ky hap
  obtain ⟨hy0,sy,hmy⟩:=wP hap
  have hsy:=hr.sat.site _ _ _ hmy
  have hby:=hr.sat.blk _ _ _ (DU hmy)
  rw[hsy]at hby
  have hyy:D9 st.own (st.ev y)=some [[.nil]]:=by
   rw[hr.ev hy0 (by intro e;cases e)]
   simp only[C9,D9,AH.get,hsy,hby,BB.blk,List.length_cons,List.length_nil]
   simp
  split at h
  ·rename_i key z' off len e
   cases ho:Nat.beq off 0<;>simp only[ho,cond_true,cond_false]at h
   cases hz:Nat.beq z' 1<;>simp only[hz,cond_true,cond_false]at h
   cases hz1:Nat.beq z 1<;>simp only[hz1,cond_true,cond_false]at h
   cases hky:Nat.beq key ky<;>simp only[hky,cond_true,cond_false]at h
   obtain rfl:=BP.1 ho
   obtain rfl:=BP.1 hz
   obtain rfl:=BP.1 hz1
   split at h
   ·rename_i s' rows hm
    rw[MO]at h
    obtain ⟨rfl,g3,g4,h⟩:=h
    obtain ⟨k,h1,h2,h3⟩:=G2 h
    have hs:=hr.sat.site _ _ _ hm
    have hbk:=hr.sat.blk _ _ _ (DU hm)
    rw[hs]at hbk
    refine ⟨.tur (.row s' (st.own.cnt s') 1 0 (rows.length+1)) (st.own.put s' (((st.own s').upd (σ key 0).2 none).new ⟨1,CG σ key 0 rows++[[.nil]]⟩)),_,_,_,fun C => ?_,h3,?_,hr.appn hm h1 h2⟩
    ·simp only[eff,hyy,hr.ev e (by intro e;cases e),C9,AH.get,hs,hbk,BB.blk]
     rw[if_pos (by simp),if_pos ⟨trivial,trivial,by rw[EY];exact Nat.le_refl _,by simpa using g3,by simpa using g4⟩]
     rw[List.take_of_length_le (by rw[EY];exact Nat.le_refl _)]
     rfl
    ·simp only[CP.res,C9,BT]
   ·exact h.elim
  ·rename_i e
   cases hlw:EO s<;>simp only[hlw,cond_true,cond_false]at h
   cases hz1:Nat.beq z 1<;>simp only[hz1,cond_true,cond_false]at h
   obtain rfl:=BP.1 hz1
   obtain ⟨g3,h⟩:=h
   obtain ⟨k,h1,h2,h3⟩:=G2 h
   have hfl:BB.flat (.mx [none]):=by
    intro i x hx
    cases i with
    | zero=>simp at hx
    | succ i=>simp at hx
   refine ⟨.tur (.row s (st.own.cnt s) 1 0 1) (st.own.put s ((st.own s).new ⟨1,[[.nil]]⟩)),_,_,_,fun C => ?_,h3,?_,hr.newq h1 h2 (.mx [none]) hfl rfl (fun _=>hlw)⟩
   ·simp only[eff,hyy,hr.ev e (by intro e;cases e),E1]
    rw[if_pos (by simp),if_pos ⟨by simpa [EJ] using g3,by simp⟩]
    rfl
   ·simp only[CP.res,C9,BT]
  ·exact h.elim
 ·exact vD hr h
theorem vN {z:Nat} {x y:AQ} (hr:RX σ tm M st) (h:XE L tm M ban K (.cpy z x y)):BS L tm ban K (.cpy z x y) st:=by
 simp only[XE]at h
 obtain ⟨h0,ys,hy,h⟩:=jR hr h
 have hy':D9 st.own (st.ev y)=some ys:=by rw[hr.ev rfl h0];exact hy
 split at h
 ·rename_i key z' off len e
  cases hz:Nat.beq z' z<;>simp only[hz,cond_true,cond_false]at h
  obtain rfl:=BP.1 hz
  split at h
  ·rename_i s' z'' es hm
   cases hz2:Nat.beq z'' z'<;>simp only[hz2,cond_true,cond_false]at h
   obtain rfl:=BP.1 hz2
   obtain ⟨g1,g2,h⟩:=h
   have hs:=hr.sat.site _ _ _ hm
   have hbk:=hr.sat.blk _ _ _ (DU hm)
   refine ⟨.tur (.int .i64 (min ys.length len:Nat)) (st.own.put s' ((st.own s').upd (σ key 0).2 (some ⟨z'',es.take off++ys.take len++es.drop (off+min ys.length len)⟩))),_,_,_,fun C => ?_,h,rfl,hr.stq hm trivial (.rw z'' _) trivial (fun _=>rfl)⟩
   rw[hs]at hbk
   simp only[eff,hy',hr.ev e (by intro e;cases e),C9,AH.get,hs,hbk,BB.blk]
   rw[if_pos ⟨trivial,trivial,g1,g2⟩]
  ·exact h.elim
 ·exact h.elim
end
end Go.Eng
