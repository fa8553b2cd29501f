/-
  The walk by computation is sound.
-/
import Derived.Test.YtplhdlbnneoobaaGreatB5
set_option linter.unusedSimpArgs false
set_option linter.unusedVariables false
set_option linter.unnecessarySimpa false
namespace Go.c4
theorem BB {a b:Nat}:Nat.beq a b=true↔a=b:=⟨Nat.eq_of_beq_eq_true,λ h=>by subst h;simp⟩
theorem EY {a b:Nat}:Nat.beq a b=false↔a≠b:=by
 constructor
 ·exact Nat.ne_of_beq_eq_false
 ·intro h
  cases e:Nat.beq a b
  ·rfl
  ·exact absurd (Nat.eq_of_beq_eq_true e) h
theorem IH (j:Nat) : ∀ tm:Tm,tg tm j=e9 tm j
 | []=>rfl
 | (i,v)::r=>by
  simp only[tg,S1,IH j r];cases e:Nat.beq j i
  ·rw[if_neg (EY.1 e)];rfl
  ·rw[if_pos (BB.1 e)];rfl
theorem F7 : ∀ (l:List AV) (K:List AV->Prop),fL l K=K l
 | [],_=>rfl
 | v::r,K=>by rw[fL,F7 r]
theorem R1 : ∀ (l:Tm) (K:Tm->Prop),fT l K=K l
 | [],_=>rfl
 | (i,v)::r,K=>by rw[fT,R1 r]
theorem IV : ∀ (l:Mem) (K:Mem->Prop),fM l K=K l
 | [],_=>rfl
 | (k,s,c)::r,K=>by rw[fM,IV r]
theorem yG (n:Nat) (K:Nat->Prop):fN n K=K n:=by cases n<;>rfl
theorem WL (m i:Nat):bit m i=m.testBit i:=by
 have h:Nat.land (Nat.shiftRight m i) 1=(m >>> i)%2:=Nat.and_one_is_mod (m >>> i);have ht:m.testBit i=decide ((m >>> i)%2=1):=by
  rw[Nat.testBit,Nat.and_comm,Nat.and_one_is_mod];rcases Nat.mod_two_eq_zero_or_one (m >>> i) with e|e<;>simp [e]
 unfold bit;rw[h,ht];rcases Nat.mod_two_eq_zero_or_one (m >>> i) with e|e<;>rw[e]<;>rfl
theorem cC (m i j:Nat):bit (Nat.lor m (Nat.shiftLeft 1 i)) j=(bit m j||decide (j=i)):=by
 rw[WL,WL];show (m ||| (1 <<< i)).testBit j=_;rw[Nat.testBit_or,Nat.testBit_shiftLeft];congr 1;by_cases h:j=i
 ·subst h;simp
 ·by_cases h2:j≥i
  ·obtain ⟨d,rfl⟩ : ∃ d,j=i+d+1:=⟨j-i-1,by omega⟩
   rw[show i+d+1-i=d+1 by omega,Nat.testBit_succ];simp [h]
  ·simp [h2,h]
theorem cB : ∀ (ts:List Nat) (m j:Nat),bit (mask m ts) j=(bit m j||ts.contains j)
 | [],m,j=>by simp [mask]
 | t::ts,m,j=>by
  rw[mask,cB ts,cC,List.contains_cons,Bool.or_assoc];congr 2
theorem WM (j:Nat):bit 0 j=false:=by rw[WL];simp
theorem SZ (j:Nat) : ∀ (tm:Tm) (m:Nat),tg (qa m tm) j=bif bit m j then .any else tg tm j
 | [],m=>by cases bit m j<;>rfl
 | (i,v)::r,m=>by
  simp only[qa];cases hb:bit m i
  ·simp only[cond_false,tg,SZ j r,cC]
   cases hj:Nat.beq j i
   ·have:decide (j=i)=false:=by simpa using EY.1 hj
    simp only[cond_false,this,Bool.or_false]
   ·obtain rfl:=BB.1 hj
    simp only[cond_true,hb,cond_false]
  ·simp only[cond_true,tg,SZ j r]
   cases hj:Nat.beq j i
   ·rfl
   ·obtain rfl:=BB.1 hj
    simp only[hb,cond_true]
theorem UM {v:AV} {K:AV->Prop} (h:fV v K):v ≠ .any/\K v:=by
 cases v<;>simp only[fV,F7]at h<;>first|exact h.elim|exact ⟨(by intro e;cases e),h⟩
theorem UK {v:AV} {K:List AV->Prop} (h:fC v K):v ≠ .any /\ ∃ cs,cellsOf v=some cs/\K cs:=by
 cases v<;>simp only[fC,fV,F7]at h<;>first|exact h.elim|exact ⟨(by intro e;cases e),_,rfl,h⟩
theorem M8 (b:Bool) (K:Bool->Prop):fB b K=K b:=by cases b<;>rfl
theorem mW {k:Nat} {tm:Tm} {M:Mem} (h:used k tm M=false):FV k M=false/\G3 k tm=false:=by
 unfold used at h;cases h1:FV k M<;>simp only[h1,cond_true,cond_false]at h
 ·exact ⟨rfl,h⟩
 ·cases h
theorem kK {tm:Tm} {M:Mem} {K:Nat->Prop} : ∀ {l:List Nat},U6 tm M l K -> ∃ k,FV k M=false/\G3 k tm=false/\K k
 | [],h=>h.elim
 | k::r,h=>by
  simp only[U6]at h;cases h0:used k tm M<;>simp only[h0,cond_true,cond_false]at h
  ·exact ⟨k,(mW h0).1,(mW h0).2,h⟩
  ·exact kK h
theorem FQ {s:Nat} {tm:Tm} {M:Mem} {K:Nat->Prop} (h:EX s tm M K) : ∃ k,FV k M=false/\G3 k tm=false/\K k:=kK h
section
variable {σ:E4}
def CQ (σ:E4) (k:Nat) (f:Nat->Nat × Nat):E4:=λ j t=>if j=k then f t else σ j t
theorem CE {k j:Nat} (f:Nat->Nat × Nat) (h:j≠k):CQ σ k f j=σ j:=by funext t;simp [CQ,h]
theorem BN (k:Nat) (f:Nat->Nat × Nat):CQ σ k f k=f:=by funext t;simp [CQ]
theorem aD {k:Nat} {p:Nat->Nat × Nat} {v:AV} (h:LV k v=false):A5 (CQ σ k p) v=A5 σ v:=by
 cases v with
 | row j t z o n=>simp only[LV]at h;simp only[A5,CE p (EY.1 h)]
 | ptr j t a b=>simp only[LV]at h;simp only[A5,CE p (EY.1 h)]
 | _=>rfl
theorem QW {k:Nat} {p:Nat->Nat × Nat} : ∀ {cs:List AV},G2 k cs=false->cs.map (A5 (CQ σ k p))=cs.map (A5 σ)
 | [],_=>rfl
 | c::r,h=>by
  simp only[G2]at h;cases h1:LV k c<;>simp only[h1,cond_true,cond_false]at h
  ·rw[List.map_cons,List.map_cons,aD h1,QW h]
  ·cases h
theorem aB {k:Nat} {p:Nat->Nat × Nat} : ∀ {es:List (List AV)},HY k es=false->(es.map λ cs=>cs.map (A5 (CQ σ k p)))=es.map λ cs=>cs.map (A5 σ)
 | [],_=>rfl
 | c::r,h=>by
  simp only[HY]at h;cases h1:G2 k c<;>simp only[h1,cond_true,cond_false]at h
  ·rw[List.map_cons,List.map_cons,QW h1,aB h]
  ·cases h
theorem SX {k:Nat} {p:Nat->Nat × Nat} {v:AV} (h:NF k v=false):BM (CQ σ k p) v=BM σ v:=by
 cases v with
 | agg cs=>simp only[NF]at h;simp only[BM,QW h]
 | fn p f g cs=>simp only[NF]at h;simp only[BM,QW h]
 | row a b c d e=>exact aD (v := .row a b c d e) h
 | ptr a b c d=>exact aD (v := .ptr a b c d) h
 | _=>rfl
theorem mH {k:Nat} {p:Nat->Nat × Nat} : ∀ {cs:List AV},QT k cs=false->cs.map (BM (CQ σ k p))=cs.map (BM σ)
 | [],_=>rfl
 | c::r,h=>by
  simp only[QT]at h;cases h1:NF k c<;>simp only[h1,cond_true,cond_false]at h
  ·rw[List.map_cons,List.map_cons,SX h1,mH h]
  ·cases h
theorem VT {k:Nat} {p:Nat->Nat × Nat} {v:AV} (h:LW k v=false):A8 (CQ σ k p) v=A8 σ v:=by
 cases v with
 | j4 cs=>simp only[LW]at h;simp only[A8,mH h]
 | agg cs=>exact SX (v := .agg cs) h
 | fn p f g cs=>exact SX (v := .fn p f g cs) h
 | row a b c d e=>exact SX (v := .row a b c d e) h
 | ptr a b c d=>exact SX (v := .ptr a b c d) h
 | _=>rfl
theorem QU {k:Nat} : ∀ {tm:Tm},G3 k tm=false -> ∀ j,LW k (tg tm j)=false
 | [],_,_=>rfl
 | (i,v)::r,h,j=>by
  simp only[G3]at h;cases h1:LW k v<;>simp only[h1,cond_true,cond_false]at h
  ·simp only[tg]
   cases Nat.beq j i
   ·exact QU h j
   ·exact h1
  ·cases h
theorem MM {k:Nat} : ∀ {M:Mem},FV k M=false -> ∀ j s c,c7 M j=some (s,c)->j≠k/\GA k c=false
 | [],_,_,_,_,e=>by cases e
 | (i,s0,c0)::r,h,j,s,c,e=>by
  simp only[FV]at h;cases h0:Nat.beq k i<;>simp only[h0,cond_true,cond_false]at h
  ·cases h1:GA k c0<;>simp only[h1,cond_true,cond_false]at h
   ·simp only[c7]at e
    cases h2:Nat.beq j i<;>simp only[h2,cond_true,cond_false]at e
    ·exact MM h j s c e
    ·simp only[Option.some.injEq,Prod.mk.injEq]at e
     obtain ⟨_,rfl⟩:=e;exact ⟨λ e=>EY.1 h0 (e.symm.trans (BB.1 h2)),h1⟩
   ·cases h
  ·cases h
theorem N2 {σ σ':E4} {k:Nat} : ∀ (rows:List (Option (Nat × List (List AV)))) (i:Nat),(∀ j,i<=j->σ k (j+1)=σ' k (j+1))->BR σ k i rows=BR σ' k i rows
 | [],i,h=>rfl
 | none::r,i,h=>by rw[BR,BR,N2 r (i+1) λ j hj=>h j (by omega)]
 | some (z,es)::r,i,h=>by rw[BR,BR,N2 r (i+1) λ j hj=>h j (by omega),h i (by omega)]
theorem EV {k:Nat} : ∀ (rows:List (Option (Nat × List (List AV)))) (i j:Nat),(BR σ k i rows)[j]? = (rows[j]?).map λ r=>match r with|none=>[.nil]|some (z,es)=>[.row (σ k (i+j+1)).1 (σ k (i+j+1)).2 z 0 es.length]
 | [],i,j=>by simp [BR]
 | none::r,i,0=>by simp [BR]
 | none::r,i,j+1=>by simp only[BR,List.getElem?_cons_succ,EV r (i+1) j];rw[show i+1+j=i+(j+1) by omega]
 | some (z,es)::r,i,0=>by simp [BR]
 | some (z,es)::r,i,j+1=>by simp only[BR,List.getElem?_cons_succ,EV r (i+1) j];rw[show i+1+j=i+(j+1) by omega]
theorem EL {k:Nat} : ∀ (rows:List (Option (Nat × List (List AV)))) (i:Nat),(BR σ k i rows).length=rows.length
 | [],i=>rfl
 | none::r,i=>by simp [BR,EL r]
 | some (z,es)::r,i=>by simp [BR,EL r]
theorem TP {k j:Nat} {f:Nat->Nat × Nat} {c:A3} (h:GA k c=false) (hj:j≠k):c.c9 (CQ σ k f) j=c.c9 σ j:=by
 cases c with
 | bx cs=>simp only[GA]at h;simp only[A3.c9,QW h]
 | rw z es=>rfl
 | bs z es=>simp only[GA]at h;simp only[A3.c9,aB h]
 | mx rows=>simp only[A3.c9];rw[N2 rows 0 λ i _=>by rw[CE f hj]]
 | hx a v rows=>simp only[A3.c9];rw[N2 rows 0 λ i _=>by rw[CE f hj]]
 | vw w rows=>simp only[A3.c9];rw[N2 rows 0 λ i _=>by rw[CE f hj]]
theorem tC {v:AV} (h:nf v=true):A5 σ v=v:=by cases v<;>first|rfl|cases h
theorem HS : ∀ {cs:List AV},DQ cs=true->cs.map (A5 σ)=cs
 | [],_=>rfl
 | c::r,h=>by
  simp only[DQ]at h;cases h1:nf c<;>simp only[h1,cond_true,cond_false]at h
  ·cases h
  ·rw[List.map_cons,tC h1,HS h]
theorem sZ {k:Nat} {v:AV} (h:nf v=true):LV k v=false:=by cases v<;>first|rfl|cases h
theorem WX {k:Nat} : ∀ {cs:List AV},DQ cs=true->G2 k cs=false
 | [],_=>rfl
 | c::r,h=>by
  simp only[DQ]at h;cases h1:nf c<;>simp only[h1,cond_true,cond_false]at h
  ·cases h
  ·simp only[G2,sZ h1,WX h,cond_false]
theorem sX (v:AV):cv v = .any\/(cv v=v/\A8 σ v=v):=by
 cases v with
 | agg cs =>
  simp only[cv];cases h:DQ cs
  ·exact Or.inl rfl
  ·exact Or.inr ⟨rfl,by simp only[A8,BM,HS h]⟩
 | j4 vs=>cases vs with
  | nil=>exact Or.inr ⟨rfl,rfl⟩
  | cons=>exact Or.inl rfl
 | fn p f g cs=>cases cs with
  | nil=>exact Or.inr ⟨rfl,rfl⟩
  | cons=>exact Or.inl rfl
 | _=>first|exact Or.inl rfl|exact Or.inr ⟨rfl,rfl⟩
theorem sU {k:Nat} (v:AV):LW k (cv v)=false:=by
 cases v with
 | agg cs =>
  simp only[cv];cases h:DQ cs
  ·rfl
  ·exact WX h
 | j4 vs=>cases vs<;>rfl
 | fn p f g cs=>cases cs<;>rfl
 | _=>rfl
variable {tm:Tm} {M:Mem} {st:St}
theorem RX.ev (h:RX σ tm M st) {x:AM} {v:AV} (e:ex tm x=v) (hv:v ≠ .any):st.ev x=A8 σ v:=by
 cases x with
 | t n =>
  simp only[ex]at e;rcases h.tm n with h|h
  ·exact absurd (e.symm.trans h) hv
  ·rw[e]at h;exact h
 | c u =>
  simp only[ex]at e;rcases sX (σ:=σ) u with h|⟨h,h'⟩
  ·exact absurd (e.symm.trans h) hv
  ·rw[<-e,h,h'];rfl
theorem gP {k:Nat} (h:G3 k tm=false) (x:AM):LW k (ex tm x)=false:=by
 cases x with
 | t n=>exact QU h n
 | c u=>exact sU u
theorem kU {k:Nat} {v:AV} {cs:List AV} (h:LW k v=false) (e:cellsOf v=some cs):G2 k cs=false:=by
 cases v<;>simp only[cellsOf,Option.some.injEq,reduceCtorEq]at e<;>subst e<;>first|exact h|rfl|(simp only[LW,NF]at h;simp only[G2,h,cond_false])
theorem MA {v:AV} {cs:List AV} (e:cellsOf v=some cs):cellsOf (A8 σ v)=some (cs.map (A5 σ)):=by
 cases v<;>simp only[cellsOf,Option.some.injEq,reduceCtorEq]at e<;>subst e<;>rfl
def A3.flat:A3->Prop
 | .mx rows => ∀ (i:Nat) (x:Nat × List (List AV)),rows[i]? = some (some x)->False
 | .hx _ _ _=>False
 | .vw _ _=>False
 | _=>True
theorem DS {M:Mem} {k s:Nat} {c:A3} (h:c7 M k=some (s,c)):c6 M k 0=some c:=by simp [c6,h]
theorem H7 {M:Mem} {k t:Nat} {c:A3} (h:c6 M k t=some c) : ∃ s c0,c7 M k=some (s,c0)/\(t=0->c=c0)/\(∀ i,t=i+1 -> ∃ rows z es,((c0 = .mx rows \/ ∃ a v,c0 = .hx a v rows) \/ ∃ w,c0 = .vw w rows)/\rows[i]? = some (some (z,es))/\c = .rw z es):=by
 unfold c6 at h;cases hm:c7 M k with
 | none=>simp [hm]at h
 | some x =>
  obtain ⟨s,c0⟩:=x;simp only[hm]at h;refine ⟨s,c0,rfl,?_,?_⟩
  ·rintro rfl;exact (Option.some.inj h).symm
  ·rintro i rfl
   cases c0 with
   | mx rows =>
    simp only at h;cases hr:rows[i]? with
    | none=>simp [hr]at h
    | some r =>
     cases r with
     | none=>simp [hr]at h
     | some ze=>obtain ⟨z,es⟩:=ze;simp only[hr,Option.some.injEq]at h;exact ⟨rows,z,es,Or.inl (Or.inl rfl),hr,h.symm⟩
   | hx a v rows =>
    simp only at h;cases hr:rows[i]? with
    | none=>simp [hr]at h
    | some r =>
     cases r with
     | none=>simp [hr]at h
     | some ze=>obtain ⟨z,es⟩:=ze;simp only[hr,Option.some.injEq]at h;exact ⟨rows,z,es,Or.inl (Or.inr ⟨a,v,rfl⟩),hr,h.symm⟩
   | vw w rows =>
    simp only at h;cases hr:rows[i]? with
    | none=>simp [hr]at h
    | some r =>
     cases r with
     | none=>simp [hr]at h
     | some ze=>obtain ⟨z,es⟩:=ze;simp only[hr,Option.some.injEq]at h;exact ⟨rows,z,es,Or.inr ⟨w,rfl⟩,hr,h.symm⟩
   | _=>simp at h
theorem ML {M:Mem} {k s:Nat} {c:A3} {j t:Nat} (h:j≠k):c6 ((k,s,c)::M) j t=c6 M j t:=by
 simp only[c6,c7,EY.2 h,cond_false]
theorem PB {M:Mem} {k s:Nat} {c:A3}:c6 ((k,s,c)::M) k 0=some c:=by simp [c6,c7]
theorem QO {M:Mem} {k s:Nat} {c:A3} (hc:c.flat) {t:Nat} {c':A3} (h:c6 ((k,s,c)::M) k t=some c'):t=0/\c'=c:=by
 cases t with
 | zero=>rw[PB]at h;exact ⟨rfl,(Option.some.inj h).symm⟩
 | succ i =>
  simp only[c6,c7,Nat.beq_refl,cond_true]at h;cases c with
  | mx rows =>
   simp only at h;split at h
   ·rename_i z es hr
    exact (hc i (z,es) hr).elim
   ·cases h
  | hx a v rows=>exact hc.elim
  | vw w rows=>exact hc.elim
  | _=>simp at h
theorem Iu {σ σ':E4} {k k':Nat} {rows:List (Option (Nat × List (List AV)))} (h:A3.flat (.mx rows)):BR σ k 0 rows=BR σ' k' 0 rows:=by
 apply List.ext_getElem?;intro j;rw[EV,EV];cases hr:rows[j]? with
 | none=>rfl
 | some r=>cases r with
  | none=>rfl
  | some x=>exact (h j x hr).elim
theorem RX.aj (h:RX σ tm M st) {s q:Nat} (hm:FV s M=false) (ht:G3 s tm=false) (c:A3) (hf:c.flat) (hc:GA s c=false) (hl:c.ij=true->D8 q=true) :
  RX (CQ σ s λ_=>(q,st.own.g7 q)) tm ((s,q,c)::M) ⟨st.tm,st.own.put q ((st.own q).new (c.c9 σ s))⟩:=by
 have Dy : ∀ j t c',c6 M j t=some c'->((st.own.put q ((st.own q).new (c.c9 σ s))) (σ j t).1).c9 (σ j t).2=(st.own (σ j t).1).c9 (σ j t).2:=by
  intro j t c' e;by_cases hs:(σ j t).1=q
  ·have ho:=h.sat.old _ _ _ e
   rw[hs]at ho ⊢;simp only[AG.g9,BU.new];rw[if_neg (by omega)]
  ·rw[AG.cn _ _ _ _ hs]
 have ug : ∀ s',(st.own s').g7<=((st.own.put q ((st.own q).new (c.c9 σ s))) s').g7:=by
  intro s';by_cases hs:s'=q
  ·subst hs;simp only[AG.g9,BU.new];omega
  ·rw[AG.cn _ _ _ _ hs];exact Nat.le_refl _
 have k8 : ∀ j t c',j≠s->c6 ((s,q,c)::M) j t=some c'->c6 M j t=some c':=λ j t c' hj e=>by rwa [ML hj]at e
 have uy : ∀ j t c',c6 M j t=some c'->GA s c'=false/\j≠s:=by
  intro j t c' e;obtain ⟨s1,c0,g1,g2,g3⟩:=H7 e;obtain ⟨g4,g5⟩:=MM hm _ _ _ g1;refine ⟨?_,g4⟩;cases t with
  | zero=>rw[g2 rfl];exact g5
  | succ i=>obtain ⟨rows,z,es,_,_,rfl⟩:=g3 i rfl;rfl
 refine ⟨λ j => ?_,⟨?_,?_,?_,?_,?_⟩⟩
 ·rw[VT (QU ht j)];exact h.tm j
 ·intro j s' c' e
  simp only[c7]at e;cases hb:Nat.beq j s<;>simp only[hb,cond_true,cond_false]at e
  ·rw[CE _ (EY.1 hb)];exact h.sat.site _ _ _ e
  ·simp only[Option.some.injEq,Prod.mk.injEq]at e
   obtain ⟨rfl,rfl⟩:=e;rw[BB.1 hb,BN]
 ·intro j t c' e
  by_cases hj:j=s
  ·subst hj
   obtain ⟨rfl,rfl⟩:=QO hf e;have hb:c'.c9 (CQ σ j λ_=>(q,st.own.g7 q)) j=c'.c9 σ j:=by
    cases c' with
    | bx cs=>simp only[GA]at hc;simp only[A3.c9,QW hc]
    | rw z es=>rfl
    | bs z es=>simp only[GA]at hc;simp only[A3.c9,aB hc]
    | mx rows=>exact congrArg (DE.mk 1) (Iu hf)
    | hx a v rows=>exact hf.elim
    | vw w rows=>exact hf.elim
   rw[BN,hb];simp [AG.g9,BU.new,AG.g7]
  ·have e':=k8 j t c' hj e
   rw[CE _ hj,TP (uy j t c' e').1 hj];exact (Dy j t c' e').trans (h.sat.c9 _ _ _ e')
 ·intro j t c' e
  by_cases hj:j=s
  ·subst hj
   rw[BN];simp [AG.g9,BU.new,AG.g7]
  ·have e':=k8 j t c' hj e
   rw[CE _ hj];exact Nat.lt_of_lt_of_le (h.sat.old _ _ _ e') (ug _)
 ·have gm : ∀ j t c',c6 M j t=some c'->σ j t=(q,st.own.g7 q)->False:=by
   intro j t c' e hh;have h2:=h.sat.old _ _ _ e;rw[hh]at h2;exact absurd h2 (Nat.lt_irrefl _)
  intro j t j' t' c1 c2 e1 e2 hj;by_cases h1:j=s<;>by_cases h2:j'=s
  ·subst h1;subst h2
   exact ⟨rfl,(QO hf e1).1.trans (QO hf e2).1.symm⟩
  ·subst h1
   rw[BN,CE _ h2]at hj;exact (gm _ _ _ (k8 _ _ _ h2 e2) hj.symm).elim
  ·subst h2
   rw[BN,CE _ h1]at hj;exact (gm _ _ _ (k8 _ _ _ h1 e1) hj).elim
  ·rw[CE _ h1,CE _ h2]at hj
   exact h.sat.inj _ _ _ _ _ _ (k8 _ _ _ h1 e1) (k8 _ _ _ h2 e2) hj
 ·intro j t c' e hw
  by_cases hj:j=s
  ·subst hj
   obtain ⟨rfl,rfl⟩:=QO hf e;rw[BN];exact hl hw
  ·rw[CE _ hj];exact h.sat.low _ _ _ (k8 j t c' hj e) hw
theorem MK {k j:Nat} {x:Nat × A3} : ∀ {M:Mem},c7 (n0 k M) j=some x->j≠k/\c7 M j=some x
 | [],e=>by cases e
 | (i,s,c)::r,e=>by
  simp only[n0]at e;cases hb:Nat.beq k i<;>simp only[hb,cond_true,cond_false]at e
  ·simp only[c7]at e ⊢
   cases hj:Nat.beq j i<;>simp only[hj,cond_true,cond_false]at e ⊢
   ·exact MK e
   ·exact ⟨λ e'=>EY.1 hb (e'.symm.trans (BB.1 hj)),e⟩
  ·obtain ⟨h1,h2⟩:=MK e
   refine ⟨h1,?_⟩;simp only[c7];rw[EY.2 (λ e'=>h1 (e'.trans (BB.1 hb).symm))];exact h2
theorem PG {own:AG} {p:Nat × Nat} {x:Option DE} {q:Nat × Nat} (h:q≠p):((own.put p.1 ((own p.1).m7 p.2 x)) q.1).c9 q.2=(own q.1).c9 q.2:=by
 by_cases hs:q.1=p.1
 ·rw[hs,AG.g9]
  simp only[BU.m7];rw[if_neg (λ e=>h (Prod.ext hs e))]
 ·rw[AG.cn _ _ _ _ hs]
theorem U8 {own:AG} {p:Nat × Nat} {x:Option DE}:((own.put p.1 ((own p.1).m7 p.2 x)) p.1).c9 p.2=x:=by simp [AG.g9,BU.m7]
theorem SK {own:AG} {p:Nat × Nat} {x:Option DE} (s:Nat):((own.put p.1 ((own p.1).m7 p.2 x)) s).g7=(own s).g7:=by
 by_cases hs:s=p.1
 ·subst hs;rw[AG.g9];rfl
 ·rw[AG.cn _ _ _ _ hs]
theorem RX.Bv (h:RX σ tm M st) {k s:Nat} {c:A3} (e:c7 M k=some (s,c)) (hf:c.flat) (c':A3) (gq:c'.flat) (Qn:c'.ij=true->c.ij=true) :
  RX σ tm ((k,s,c')::M) ⟨st.tm,st.own.put s ((st.own s).m7 (σ k 0).2 (some (c'.c9 σ k)))⟩:=by
 have hs:=h.sat.site _ _ _ e;subst hs;have e0:=DS e;have hg : ∀ j t c1,c6 ((k,(σ k 0).1,c')::M) j t=some c1->(j=k/\t=0/\c1=c')\/(j≠k/\c6 M j t=some c1):=by
  intro j t c1 e1;by_cases hj:j=k
  ·subst hj
   obtain ⟨rfl,rfl⟩:=QO gq e1;exact Or.inl ⟨rfl,rfl,rfl⟩
  ·rw[ML hj]at e1
   exact Or.inr ⟨hj,e1⟩
 have ki : ∀ j t c1,c6 ((k,(σ k 0).1,c')::M) j t=some c1 -> ∃ c2,c6 M j t=some c2:=by
  intro j t c1 e1;rcases hg j t c1 e1 with ⟨rfl,rfl,rfl⟩|⟨_,h2⟩
  ·exact ⟨c,e0⟩
  ·exact ⟨c1,h2⟩
 refine ⟨h.tm,⟨?_,?_,?_,?_,?_⟩⟩
 ·intro j s' c1 e1
  simp only[c7]at e1;cases hb:Nat.beq j k<;>simp only[hb,cond_true,cond_false]at e1
  ·exact h.sat.site _ _ _ e1
  ·simp only[Option.some.injEq,Prod.mk.injEq]at e1
   rw[BB.1 hb];exact e1.1
 ·intro j t c1 e1
  rcases hg j t c1 e1 with ⟨rfl,rfl,rfl⟩|⟨h1,h2⟩
  ·exact U8
  ·refine (PG (λ he => ?_)).trans (h.sat.c9 _ _ _ h2)
   exact h1 (h.sat.inj _ _ _ _ _ _ h2 e0 he).1
 ·intro j t c1 e1
  obtain ⟨c2,e2⟩:=ki _ _ _ e1;show (σ j t).2<((st.own.put (σ k 0).1 ((st.own (σ k 0).1).m7 (σ k 0).2 (some (c'.c9 σ k)))) (σ j t).1).g7;rw[SK];exact h.sat.old _ _ _ e2
 ·intro j t j' t' c1 c2 e1 e2 hj
  obtain ⟨_,xn⟩:=ki _ _ _ e1;obtain ⟨_,tj⟩:=ki _ _ _ e2;exact h.sat.inj _ _ _ _ _ _ xn tj hj
 ·intro j t c1 e1 hw
  rcases hg j t c1 e1 with ⟨rfl,rfl,rfl⟩|⟨_,h2⟩
  ·exact h.sat.low _ _ _ e0 (Qn hw)
  ·exact h.sat.low _ _ _ h2 hw
theorem Ju {k t:Nat} {c:A3} (h:c6 M k (t+1)=some c):c.ij=true:=by
 obtain ⟨_,_,_,_,g3⟩:=H7 h;obtain ⟨_,_,_,_,_,rfl⟩:=g3 t rfl;rfl
theorem JQ {k j t:Nat} {c:A3} (h:c6 (n0 k M) j t=some c):j≠k/\c6 M j t=some c:=by
 obtain ⟨s,c0,g1,_⟩:=H7 h;obtain ⟨h1,h2⟩:=MK g1;refine ⟨h1,?_⟩;unfold c6 at h ⊢;rw[g1]at h;rw[h2];exact h
theorem RX.kill (h:RX σ tm M st) {k s:Nat} {c:A3} (e:c7 M k=some (s,c)) :
  RX σ tm (n0 k M) ⟨st.tm,st.own.put s ((st.own s).m7 (σ k 0).2 none)⟩:=by
 have hs:=h.sat.site _ _ _ e;subst hs;have e0:=DS e;refine ⟨h.tm,⟨?_,?_,?_,?_,?_⟩⟩
 ·intro j s' c1 e1
  exact h.sat.site _ _ _ (MK e1).2
 ·intro j t c1 e1
  obtain ⟨hj,e1⟩:=JQ e1;refine (PG (λ he => ?_)).trans (h.sat.c9 _ _ _ e1);exact hj (h.sat.inj _ _ _ _ _ _ e1 e0 he).1
 ·intro j t c1 e1
  obtain ⟨hj,e1⟩:=JQ e1;show (σ j t).2<((st.own.put (σ k 0).1 ((st.own (σ k 0).1).m7 (σ k 0).2 none)) (σ j t).1).g7;rw[SK];exact h.sat.old _ _ _ e1
 ·intro j t j' t' c1 c2 e1 e2 hj
  exact h.sat.inj _ _ _ _ _ _ (JQ e1).2 (JQ e2).2 hj
 ·intro j t c1 e1 hw
  exact h.sat.low _ _ _ (JQ e1).2 hw
theorem RX.Fh (h:RX σ tm M st) {k s i z:Nat} {rows:List (Option (Nat × List (List AV)))} {es es':List (List AV)} (e:c7 M k=some (s,.mx rows)) (hr:rows[i]? = some (some (z,es))) (hl:es'.length=es.length) :
  RX σ tm ((k,s,.mx (rows.set i (some (z,es'))))::M) ⟨st.tm,st.own.put (σ k (i+1)).1 ((st.own (σ k (i+1)).1).m7 (σ k (i+1)).2 (some ⟨z,es'⟩))⟩:=by
 have e1:c6 M k (i+1)=some (.rw z es):=by simp [c6,e,hr]
 have hi:i<rows.length:=(zS hr).1;have ft:BR σ k 0 (rows.set i (some (z,es')))=BR σ k 0 rows:=by
  apply List.ext_getElem?;intro j;rw[EV,EV];by_cases hj:i=j
  ·subst hj;rw[List.getElem?_set_self hi,hr];simp [hl]
  ·rw[List.getElem?_set_ne hj]
 have hg : ∀ j t c1,c6 ((k,s,.mx (rows.set i (some (z,es'))))::M) j t=some c1->(j=k/\t=i+1/\c1 = .rw z es')\/(¬ (j=k/\t=i+1) /\ ∃ c2,c6 M j t=some c2/\c2.c9 σ j=c1.c9 σ j):=by
  intro j t c1 g;by_cases hj:j=k
  ·subst hj
   cases t with
   | zero =>
    rw[PB]at g;obtain rfl:=Option.some.inj g;exact Or.inr ⟨by omega,_,DS e,by simp only[A3.c9,ft]⟩
   | succ t =>
    simp only[c6,c7,Nat.beq_refl,cond_true]at g;by_cases sn:i=t
    ·subst sn
     rw[List.getElem?_set_self hi]at g;exact Or.inl ⟨rfl,rfl,(Option.some.inj g).symm⟩
    ·rw[List.getElem?_set_ne sn]at g
     refine Or.inr ⟨by omega,c1,?_,rfl⟩;simp only[c6,e];exact g
  ·rw[ML hj]at g
   exact Or.inr ⟨by omega,c1,g,rfl⟩
 have ki : ∀ j t c1,c6 ((k,s,.mx (rows.set i (some (z,es'))))::M) j t=some c1 -> ∃ c2,c6 M j t=some c2:=by
  intro j t c1 g;rcases hg j t c1 g with ⟨rfl,rfl,rfl⟩|⟨_,c2,h2,_⟩
  ·exact ⟨_,e1⟩
  ·exact ⟨c2,h2⟩
 refine ⟨h.tm,⟨?_,?_,?_,?_,?_⟩⟩
 ·intro j s' c1 g
  simp only[c7]at g;cases hb:Nat.beq j k<;>simp only[hb,cond_true,cond_false]at g
  ·exact h.sat.site _ _ _ g
  ·simp only[Option.some.injEq,Prod.mk.injEq]at g
   rw[BB.1 hb,<-g.1];exact h.sat.site _ _ _ e
 ·intro j t c1 g
  rcases hg j t c1 g with ⟨rfl,rfl,rfl⟩|⟨h1,c2,h2,h3⟩
  ·exact U8
  ·rw[<-h3]
   refine (PG (λ he => ?_)).trans (h.sat.c9 _ _ _ h2);exact h1 (h.sat.inj _ _ _ _ _ _ h2 e1 he)
 ·intro j t c1 g
  obtain ⟨c2,e2⟩:=ki _ _ _ g;show (σ j t).2<((st.own.put (σ k (i+1)).1 ((st.own (σ k (i+1)).1).m7 (σ k (i+1)).2 (some ⟨z,es'⟩))) (σ j t).1).g7;rw[SK];exact h.sat.old _ _ _ e2
 ·intro j t j' t' c1 c2 g1 g2 hj
  obtain ⟨_,xn⟩:=ki _ _ _ g1;obtain ⟨_,tj⟩:=ki _ _ _ g2;exact h.sat.inj _ _ _ _ _ _ xn tj hj
 ·intro j t c1 g hw
  obtain ⟨c2,e2⟩:=ki _ _ _ g;cases t with
  | zero =>
   by_cases hj:j=k
   ·subst hj;exact h.sat.low _ _ _ (DS e) rfl
   ·rw[ML hj]at g;exact h.sat.low _ _ _ g hw
  | succ t=>exact h.sat.low _ _ _ e2 (Ju e2)
section
variable {k:Nat} {f:Nat->Nat × Nat}
theorem aC {v:AV} (hf:f 0=σ k 0) (h:MX k v=false):A5 (CQ σ k f) v=A5 σ v:=by
 cases v with
 | row j t z o n =>
  simp only[MX]at h;cases hb:Nat.beq j k
  ·simp only[A5,CE f (EY.1 hb)]
  ·obtain rfl:=BB.1 hb
   simp only[hb,cond_true]at h;cases t with
   | zero=>simp only[A5,BN,hf]
   | succ t=>cases h
 | ptr j t a b =>
  simp only[MX]at h;cases hb:Nat.beq j k
  ·simp only[A5,CE f (EY.1 hb)]
  ·obtain rfl:=BB.1 hb
   simp only[hb,cond_true]at h;cases t with
   | zero=>simp only[A5,BN,hf]
   | succ t=>cases h
 | _=>rfl
theorem SV (hf:f 0=σ k 0) : ∀ {cs:List AV},MB k cs=false->cs.map (A5 (CQ σ k f))=cs.map (A5 σ)
 | [],_=>rfl
 | c::r,h=>by
  simp only[MB]at h;cases h1:MX k c<;>simp only[h1,cond_true,cond_false]at h
  ·rw[List.map_cons,List.map_cons,aC hf h1,SV hf h]
  ·cases h
theorem mF (hf:f 0=σ k 0) : ∀ {es:List (List AV)},P7 k es=false->(es.map λ cs=>cs.map (A5 (CQ σ k f)))=es.map λ cs=>cs.map (A5 σ)
 | [],_=>rfl
 | c::r,h=>by
  simp only[P7]at h;cases h1:MB k c<;>simp only[h1,cond_true,cond_false]at h
  ·rw[List.map_cons,List.map_cons,SV hf h1,mF hf h]
  ·cases h
theorem SW {v:AV} (hf:f 0=σ k 0) (h:OT k v=false):BM (CQ σ k f) v=BM σ v:=by
 cases v with
 | agg cs=>simp only[OT]at h;simp only[BM,SV hf h]
 | fn p f g cs=>simp only[OT]at h;simp only[BM,SV hf h]
 | row a b c d e=>exact aC (v := .row a b c d e) hf h
 | ptr a b c d=>exact aC (v := .ptr a b c d) hf h
 | _=>rfl
theorem mG (hf:f 0=σ k 0) : ∀ {cs:List AV},P6 k cs=false->cs.map (BM (CQ σ k f))=cs.map (BM σ)
 | [],_=>rfl
 | c::r,h=>by
  simp only[P6]at h;cases h1:OT k c<;>simp only[h1,cond_true,cond_false]at h
  ·rw[List.map_cons,List.map_cons,SW hf h1,mG hf h]
  ·cases h
theorem Lh {v:AV} (hf:f 0=σ k 0) (h:NU k v=false):A8 (CQ σ k f) v=A8 σ v:=by
 cases v with
 | j4 cs=>simp only[NU]at h;simp only[A8,mG hf h]
 | agg cs=>exact SW (v := .agg cs) hf h
 | fn p f g cs=>exact SW (v := .fn p f g cs) hf h
 | row a b c d e=>exact SW (v := .row a b c d e) hf h
 | ptr a b c d=>exact SW (v := .ptr a b c d) hf h
 | _=>rfl
theorem cL : ∀ {tm:Tm},MC k tm=false -> ∀ j,NU k (tg tm j)=false
 | [],_,_=>rfl
 | (i,v)::r,h,j=>by
  simp only[MC]at h;cases h1:NU k v<;>simp only[h1,cond_true,cond_false]at h
  ·simp only[tg]
   cases Nat.beq j i
   ·exact cL h j
   ·exact h1
  ·cases h
theorem cI : ∀ {M:Mem},IQ k M=false -> ∀ j s c,c7 M j=some (s,c)->MY k c=false
 | [],_,_,_,_,e=>by cases e
 | (i,s0,c0)::r,h,j,s,c,e=>by
  simp only[IQ]at h;cases h1:MY k c0<;>simp only[h1,cond_true,cond_false]at h
  ·simp only[c7]at e
   cases h2:Nat.beq j i<;>simp only[h2,cond_true,cond_false]at e
   ·exact cI h j s c e
   ·simp only[Option.some.injEq,Prod.mk.injEq]at e
    obtain ⟨_,rfl⟩:=e;exact h1
  ·cases h
theorem rL {c:A3} {j:Nat} (hf:f 0=σ k 0) (h:MY k c=false) (hj:j≠k):c.c9 (CQ σ k f) j=c.c9 σ j:=by
 cases c with
 | bx cs=>simp only[MY]at h;simp only[A3.c9,SV hf h]
 | rw z es=>rfl
 | bs z es=>simp only[MY]at h;simp only[A3.c9,mF hf h]
 | mx rows=>simp only[A3.c9];rw[N2 rows 0 λ i _=>by rw[CE f hj]]
 | hx a v rows=>simp only[A3.c9];rw[N2 rows 0 λ i _=>by rw[CE f hj]]
 | vw w rows=>simp only[A3.c9];rw[N2 rows 0 λ i _=>by rw[CE f hj]]
end
theorem RX.ve (h:RX σ tm M st) {k k2 s s2 i z:Nat} {rows:List (Option (Nat × List (List AV)))} {es:List (List AV)} {c0:A3} (e:c7 M k=some (s,c0)) (cr:c0 = .mx rows \/ ∃ v,c0 = .hx i v rows) (e2:c7 M k2=some (s2,.rw z es)) (hk:k≠k2) (ag:MC k tm=false) (nn:IQ k M=false) (hi:i<rows.length) :
  RX (CQ σ k λ t=>if t=i+1 then σ k2 0 else σ k t) tm ((k,s,.mx (rows.set i (some (z,es))))::n0 k2 M) ⟨st.tm,st.own.put s ((st.own s).m7 (σ k 0).2 (some ⟨1,(BR σ k 0 rows).set i [.row (σ k2 0).1 (σ k2 0).2 z 0 es.length]⟩))⟩:=by
 have hs:=h.sat.site _ _ _ e;subst hs;have r0:=DS e;have r2:=DS e2;have f0:(λ t=>if t=i+1 then σ k2 0 else σ k t) 0=σ k 0:=by simp
 have ft:BR (CQ σ k λ t=>if t=i+1 then σ k2 0 else σ k t) k 0 (rows.set i (some (z,es)))=(BR σ k 0 rows).set i [.row (σ k2 0).1 (σ k2 0).2 z 0 es.length]:=by
  apply List.ext_getElem?;intro j;rw[EV,BN];by_cases hj:i=j
  ·subst hj
   rw[List.getElem?_set_self hi,List.getElem?_set_self (by rw[EL];exact hi)];simp
  ·rw[List.getElem?_set_ne hj,List.getElem?_set_ne hj,EV]
   congr 1;funext r
   cases r with
   | none=>rfl
   | some x=>simp only[Nat.zero_add];rw[if_neg (by omega)]
 have hg : ∀ j t c,c6 ((k,(σ k 0).1,.mx (rows.set i (some (z,es))))::n0 k2 M) j t=some c ->
   (j=k/\t=0/\c = .mx (rows.set i (some (z,es))))\/(j=k/\t=i+1/\c = .rw z es)\/(j=k/\t≠0/\t≠i+1/\c6 M k t=some c)\/(j≠k/\j≠k2/\c6 M j t=some c):=by
  intro j t c g;by_cases hj:j=k
  ·subst hj
   cases t with
   | zero=>rw[PB]at g;exact Or.inl ⟨rfl,rfl,(Option.some.inj g).symm⟩
   | succ t =>
    simp only[c6,c7,Nat.beq_refl,cond_true]at g;by_cases sn:i=t
    ·subst sn
     rw[List.getElem?_set_self hi]at g;exact Or.inr (Or.inl ⟨rfl,rfl,(Option.some.inj g).symm⟩)
    ·rw[List.getElem?_set_ne sn]at g
     refine Or.inr (Or.inr (Or.inl ⟨rfl,by omega,by omega,?_⟩));rcases cr with rfl|⟨v,rfl⟩
     ·simp only[c6,e]
      exact g
     ·simp only[c6,e]
      exact g
  ·rw[ML hj]at g
   obtain ⟨g1,g2⟩:=JQ g;exact Or.inr (Or.inr (Or.inr ⟨hj,g1,g2⟩))
 have Py : ∀ j t c,c6 M j t=some c->MY k c=false:=by
  intro j t c g;obtain ⟨s1,c0,g1,g2,g3⟩:=H7 g;cases t with
  | zero=>rw[g2 rfl];exact cI nn _ _ _ g1
  | succ t=>obtain ⟨_,_,_,_,_,rfl⟩:=g3 t rfl;rfl
 refine ⟨λ j => ?_,⟨?_,?_,?_,?_,?_⟩⟩
 ·rw[Lh (f:=λ t=>if t=i+1 then σ k2 0 else σ k t) f0 (cL ag j)];exact h.tm j
 ·intro j s' c g
  simp only[c7]at g;cases hb:Nat.beq j k<;>simp only[hb,cond_true,cond_false]at g
  ·rw[CE _ (EY.1 hb)];exact h.sat.site _ _ _ (MK g).2
  ·simp only[Option.some.injEq,Prod.mk.injEq]at g
   rw[BB.1 hb,BN,<-g.1];simp
 ·intro j t c g
  rcases hg j t c g with ⟨rfl,rfl,rfl⟩|⟨rfl,rfl,rfl⟩|⟨rfl,h0,h1,g2⟩|⟨h0,h1,g2⟩
  ·rw[BN]
   simp only[A3.c9,ft];exact U8
  ·rw[BN]
   simp only[if_true];exact (PG (λ he=>hk (h.sat.inj _ _ _ _ _ _ r2 r0 he).1.symm)).trans (h.sat.c9 _ _ _ r2)
  ·rw[BN]
   simp only[h1,if_false];have hb:c.c9 (CQ σ j λ t=>if t=i+1 then σ k2 0 else σ j t) j=c.c9 σ j:=by
    obtain ⟨_,_,_,_,g3⟩:=H7 g2;obtain ⟨t',rfl⟩ : ∃ t',t=t'+1:=⟨t-1,by omega⟩;obtain ⟨_,_,_,_,_,rfl⟩:=g3 t' rfl;rfl
   rw[hb];exact (PG (λ he=>h0 (h.sat.inj _ _ _ _ _ _ g2 r0 he).2)).trans (h.sat.c9 _ _ _ g2)
  ·rw[CE _ h0,rL (f:=λ t=>if t=i+1 then σ k2 0 else σ k t) f0 (Py _ _ _ g2) h0]
   exact (PG (λ he=>h0 (h.sat.inj _ _ _ _ _ _ g2 r0 he).1)).trans (h.sat.c9 _ _ _ g2)
 ·intro j t c g
  rw[SK];rcases hg j t c g with ⟨rfl,rfl,rfl⟩|⟨rfl,rfl,rfl⟩|⟨rfl,h0,h1,g2⟩|⟨h0,h1,g2⟩
  ·rw[BN];simpa using h.sat.old _ _ _ r0
  ·rw[BN];simpa using h.sat.old _ _ _ r2
  ·rw[BN];simp only[h1,if_false];exact h.sat.old _ _ _ g2
  ·rw[CE _ h0];exact h.sat.old _ _ _ g2
 ·-- each name is that of wx in the old memory
  have hold : ∀ j t c,c6 ((k,(σ k 0).1,.mx (rows.set i (some (z,es))))::n0 k2 M) j t=some c -> ∃ j0 t0 c0,c6 M j0 t0=some c0/\(CQ σ k λ t=>if t=i+1 then σ k2 0 else σ k t) j t=σ j0 t0/\((j0=k2/\t0=0/\j=k/\t=i+1)\/(j0=j/\t0=t/\j≠k2)):=by
   intro j t c g;rcases hg j t c g with ⟨rfl,rfl,rfl⟩|⟨rfl,rfl,rfl⟩|⟨rfl,h0,h1,g2⟩|⟨h0,h1,g2⟩
   ·exact ⟨_,_,_,r0,by rw[BN];simp,Or.inr ⟨rfl,rfl,hk⟩⟩
   ·exact ⟨_,_,_,r2,by rw[BN];simp,Or.inl ⟨rfl,rfl,rfl,rfl⟩⟩
   ·exact ⟨_,_,_,g2,by rw[BN];simp [h1],Or.inr ⟨rfl,rfl,hk⟩⟩
   ·exact ⟨_,_,_,g2,by rw[CE _ h0],Or.inr ⟨rfl,rfl,h1⟩⟩
  intro j t j' t' c c' g g' hj;obtain ⟨j0,t0,c0,a1,a2,a3⟩:=hold j t c g;obtain ⟨j1,t1,c1,b1,b2,b3⟩:=hold j' t' c' g';rw[a2,b2]at hj;obtain ⟨q1,q2⟩:=h.sat.inj _ _ _ _ _ _ a1 b1 hj;rcases a3 with ⟨x1,x2,x3,x4⟩|⟨x1,x2,x3⟩<;>rcases b3 with ⟨y1,y2,y3,y4⟩|⟨y1,y2,y3⟩
  ·exact ⟨x3.trans y3.symm,x4.trans y4.symm⟩
  ·exact absurd (y1.symm.trans (q1.symm.trans x1)) y3
  ·exact absurd (x1.symm.trans (q1.trans y1)) x3
  ·exact ⟨x1.symm.trans (q1.trans y1),x2.symm.trans (q2.trans y2)⟩
 ·intro j t c g hw
  rcases hg j t c g with ⟨rfl,rfl,rfl⟩|⟨rfl,rfl,rfl⟩|⟨rfl,h0,h1,g2⟩|⟨h0,h1,g2⟩
  ·rw[BN];simpa using h.sat.low _ _ _ r0 (by rcases cr with rfl|⟨v,rfl⟩<;>rfl)
  ·rw[BN];simpa using h.sat.low _ _ _ r2 rfl
  ·rw[BN];simp only[h1,if_false];exact h.sat.low _ _ _ g2 hw
  ·rw[CE _ h0];exact h.sat.low _ _ _ g2 hw
theorem O7 {own:AG} {q t:Nat} {b:DE} {p:Nat × Nat} (h:p≠(q,t)) (ho:p.2<(own p.1).g7):((own.put q (((own q).m7 t none).new b)) p.1).c9 p.2=(own p.1).c9 p.2:=by
 by_cases hs:p.1=q
 ·rw[hs]at ho ⊢
  rw[AG.g9];simp only[BU.new,BU.m7];have h1 : ¬ p.2=(own q).g7:=by omega
  have h2 : ¬ p.2=t:=λ e=>h (Prod.ext hs e)
  simp only[h1,h2,if_false]
 ·rw[AG.cn _ _ _ _ hs]
theorem O8 {own:AG} {q t:Nat} {b:DE} (s:Nat):(own s).g7<=((own.put q (((own q).m7 t none).new b)) s).g7:=by
 by_cases hs:s=q
 ·subst hs;rw[AG.g9];simp only[BU.new,BU.m7];omega
 ·rw[AG.cn _ _ _ _ hs];exact Nat.le_refl _
theorem RX.Bz (h:RX σ tm M st) {s key sk i z:Nat} {rows:List (Option (Nat × List (List AV)))} {es es':List (List AV)} (e:c7 M key=some (sk,.mx rows)) (hr:rows[i]? = some (some (z,es))) (hm:FV s M=false) (ht:G3 s tm=false) :
  RX (CQ σ s λ_=>((σ key (i+1)).1,st.own.g7 (σ key (i+1)).1)) tm ((s,(σ key (i+1)).1,.rw z es')::(key,sk,.hx i (.row (σ key (i+1)).1 (σ key (i+1)).2 z 0 es.length) (rows.set i none))::n0 key M)
   ⟨st.tm,st.own.put (σ key (i+1)).1 (((st.own (σ key (i+1)).1).m7 (σ key (i+1)).2 none).new ⟨z,es'⟩)⟩:=by
 have r0:=DS e;have e1:c6 M key (i+1)=some (.rw z es):=by simp [c6,e,hr]
 have hi:i<rows.length:=(zS hr).1;have yy:key≠s:=(MM hm _ _ _ e).1;have ft:(BR (CQ σ s λ_=>((σ key (i+1)).1,st.own.g7 (σ key (i+1)).1)) key 0 (rows.set i none)).set i [.row (σ key (i+1)).1 (σ key (i+1)).2 z 0 es.length]=BR σ key 0 rows:=by
  apply List.ext_getElem?;intro j;by_cases hj:i=j
  ·subst hj
   rw[List.getElem?_set_self (by rw[EL,List.length_set];exact hi),EV,hr];simp
  ·rw[List.getElem?_set_ne hj,EV,EV,List.getElem?_set_ne hj,CE _ yy]
 have uy : ∀ j t c',c6 M j t=some c'->GA s c'=false/\j≠s:=by
  intro j t c' g;obtain ⟨s1,c0,g1,g2,g3⟩:=H7 g;obtain ⟨g4,g5⟩:=MM hm _ _ _ g1;refine ⟨?_,g4⟩;cases t with
  | zero=>rw[g2 rfl];exact g5
  | succ i=>obtain ⟨rows,z,es,_,_,rfl⟩:=g3 i rfl;rfl
 have hg : ∀ j t c,c6 ((s,(σ key (i+1)).1,.rw z es')::(key,sk,.hx i (.row (σ key (i+1)).1 (σ key (i+1)).2 z 0 es.length) (rows.set i none))::n0 key M) j t=some c ->
   (j=s/\t=0/\c = .rw z es')\/(j=key/\t=0/\c = .hx i (.row (σ key (i+1)).1 (σ key (i+1)).2 z 0 es.length) (rows.set i none))\/(j≠s /\ ¬ (j=key/\t=0) /\ ¬ (j=key/\t=i+1)/\(j=key -> ∃ z es,c = .rw z es)/\c6 M j t=some c):=by
  intro j t c g;by_cases hj:j=s
  ·subst hj
   obtain ⟨rfl,rfl⟩:=QO (c := .rw z es') trivial g;exact Or.inl ⟨rfl,rfl,rfl⟩
  ·rw[ML hj]at g
   by_cases hk:j=key
   ·subst hk
    cases t with
    | zero=>rw[PB]at g;exact Or.inr (Or.inl ⟨rfl,rfl,(Option.some.inj g).symm⟩)
    | succ t =>
     simp only[c6,c7,Nat.beq_refl,cond_true]at g;by_cases sn:i=t
     ·subst sn
      rw[List.getElem?_set_self hi]at g;cases g
     ·rw[List.getElem?_set_ne sn]at g
      refine Or.inr (Or.inr ⟨hj,by omega,by omega,λ_ => ?_,?_⟩)
      ·split at g
       ·exact ⟨_,_,(Option.some.inj g).symm⟩
       ·cases g
      ·simp only[c6,e]
       exact g
   ·rw[ML hk]at g
    obtain ⟨g1,g2⟩:=JQ g;exact Or.inr (Or.inr ⟨hj,by omega,by omega,λ h=>absurd h hk,g2⟩)
 refine ⟨λ j => ?_,⟨?_,?_,?_,?_,?_⟩⟩
 ·rw[VT (QU ht j)];exact h.tm j
 ·intro j s1 c g
  simp only[c7]at g;cases hb:Nat.beq j s<;>simp only[hb,cond_true,cond_false]at g
  ·rw[CE _ (EY.1 hb)]
   cases o6:Nat.beq j key<;>simp only[o6,cond_true,cond_false]at g
   ·exact h.sat.site _ _ _ (MK g).2
   ·simp only[Option.some.injEq,Prod.mk.injEq]at g
    rw[BB.1 o6,<-g.1];exact h.sat.site _ _ _ e
  ·simp only[Option.some.injEq,Prod.mk.injEq]at g
   rw[BB.1 hb,BN,<-g.1]
 ·intro j t c g
  rcases hg j t c g with ⟨rfl,rfl,rfl⟩|⟨rfl,rfl,rfl⟩|⟨h0,h1,h2,h3,g2⟩
  ·rw[BN]
   simp [AG.g9,BU.new,AG.g7,BU.m7,A3.c9]
  ·rw[CE _ yy]
   simp only[A3.c9,ft];exact (O7 (λ he=>absurd (h.sat.inj _ _ _ _ _ _ r0 e1 he).2 (by omega)) (h.sat.old _ _ _ r0)).trans (h.sat.c9 _ _ _ r0)
  ·rw[CE _ h0,TP (uy _ _ _ g2).1 h0]
   exact (O7 (λ he=>h2 (h.sat.inj _ _ _ _ _ _ g2 e1 he)) (h.sat.old _ _ _ g2)).trans (h.sat.c9 _ _ _ g2)
 ·intro j t c g
  rcases hg j t c g with ⟨rfl,rfl,rfl⟩|⟨rfl,rfl,rfl⟩|⟨h0,h1,h2,h3,g2⟩
  ·rw[BN]
   simp [AG.g9,BU.new,AG.g7,BU.m7]
  ·rw[CE _ yy]
   exact Nat.lt_of_lt_of_le (h.sat.old _ _ _ r0) (O8 _)
  ·rw[CE _ h0]
   exact Nat.lt_of_lt_of_le (h.sat.old _ _ _ g2) (O8 _)
 ·have hold : ∀ j t c,c6 ((s,(σ key (i+1)).1,.rw z es')::(key,sk,.hx i (.row (σ key (i+1)).1 (σ key (i+1)).2 z 0 es.length) (rows.set i none))::n0 key M) j t=some c->(j=s/\t=0)\/(j≠s /\ ∃ c0,c6 M j t=some c0):=by
   intro j t c g;rcases hg j t c g with ⟨rfl,rfl,rfl⟩|⟨rfl,rfl,rfl⟩|⟨h0,h1,h2,h3,g2⟩
   ·exact Or.inl ⟨rfl,rfl⟩
   ·exact Or.inr ⟨yy,_,r0⟩
   ·exact Or.inr ⟨h0,_,g2⟩
  have ik : ∀ j0 t0 c0,c6 M j0 t0=some c0->((σ key (i+1)).1,st.own.g7 (σ key (i+1)).1)≠σ j0 t0:=by
   intro j0 t0 c0 g he;have:=h.sat.old _ _ _ g
   rw[<-he]at this;exact absurd this (Nat.lt_irrefl _)
  intro j t j' t' c c' g g' hj;rcases hold j t c g with ⟨rfl,rfl⟩|⟨a1,c1,a2⟩<;>rcases hold j' t' c' g' with ⟨rfl,rfl⟩|⟨b1,c2,b2⟩
  ·exact ⟨rfl,rfl⟩
  ·rw[BN,CE _ b1]at hj;exact absurd hj (ik _ _ _ b2)
  ·rw[BN,CE _ a1]at hj;exact absurd hj.symm (ik _ _ _ a2)
  ·rw[CE _ a1,CE _ b1]at hj
   exact h.sat.inj _ _ _ _ _ _ a2 b2 hj
 ·intro j t c g hw
  rcases hg j t c g with ⟨rfl,rfl,rfl⟩|⟨rfl,rfl,rfl⟩|⟨h0,h1,h2,h3,g2⟩
  ·rw[BN];exact h.sat.low _ _ _ e1 rfl
  ·rw[CE _ yy];exact h.sat.low _ _ _ r0 rfl
  ·rw[CE _ h0];exact h.sat.low _ _ _ g2 hw
theorem RX.view (h:RX σ tm M st) {k s:Nat} {c0:A3} {rows:List (Option (Nat × List (List AV)))} {w:List Nat} (e:c7 M k=some (s,c0)) (cr:c0 = .mx rows \/ ∃ w0,c0 = .vw w0 rows) :
  RX σ tm ((k,s,.vw w rows)::M) ⟨st.tm,st.own.put s ((st.own s).m7 (σ k 0).2 (some (A3.c9 σ k (.vw w rows))))⟩:=by
 have hs:=h.sat.site _ _ _ e;subst hs;have r0:=DS e;have hg : ∀ j t c,c6 ((k,(σ k 0).1,.vw w rows)::M) j t=some c->(j=k/\t=0/\c = .vw w rows)\/(¬ (j=k/\t=0)/\c6 M j t=some c):=by
  intro j t c g;by_cases hj:j=k
  ·subst hj
   cases t with
   | zero=>rw[PB]at g;exact Or.inl ⟨rfl,rfl,(Option.some.inj g).symm⟩
   | succ t =>
    refine Or.inr ⟨by omega,?_⟩;simp only[c6,c7,Nat.beq_refl,cond_true]at g;rcases cr with rfl|⟨w0,rfl⟩
    ·simp only[c6,e]
     exact g
    ·simp only[c6,e]
     exact g
  ·rw[ML hj]at g
   exact Or.inr ⟨by omega,g⟩
 have ki : ∀ j t c1,c6 ((k,(σ k 0).1,.vw w rows)::M) j t=some c1 -> ∃ c2,c6 M j t=some c2:=by
  intro j t c1 g;rcases hg j t c1 g with ⟨rfl,rfl,rfl⟩|⟨_,h2⟩
  ·exact ⟨_,r0⟩
  ·exact ⟨_,h2⟩
 refine ⟨h.tm,⟨?_,?_,?_,?_,?_⟩⟩
 ·intro j s' c1 g
  simp only[c7]at g;cases hb:Nat.beq j k<;>simp only[hb,cond_true,cond_false]at g
  ·exact h.sat.site _ _ _ g
  ·simp only[Option.some.injEq,Prod.mk.injEq]at g
   rw[BB.1 hb];exact g.1
 ·intro j t c1 g
  rcases hg j t c1 g with ⟨rfl,rfl,rfl⟩|⟨h1,h2⟩
  ·exact U8
  ·refine (PG (λ he => ?_)).trans (h.sat.c9 _ _ _ h2)
   exact h1 (h.sat.inj _ _ _ _ _ _ h2 r0 he)
 ·intro j t c1 g
  obtain ⟨c2,e2⟩:=ki _ _ _ g;show (σ j t).2<((st.own.put (σ k 0).1 ((st.own (σ k 0).1).m7 (σ k 0).2 _)) (σ j t).1).g7;rw[SK];exact h.sat.old _ _ _ e2
 ·intro j t j' t' c1 c2 g1 g2 hj
  obtain ⟨_,xn⟩:=ki _ _ _ g1;obtain ⟨_,tj⟩:=ki _ _ _ g2;exact h.sat.inj _ _ _ _ _ _ xn tj hj
 ·intro j t c1 g hw
  rcases hg j t c1 g with ⟨rfl,rfl,rfl⟩|⟨_,h2⟩
  ·exact h.sat.low _ _ _ r0 (by rcases cr with rfl|⟨w0,rfl⟩<;>rfl)
  ·exact h.sat.low _ _ _ h2 hw
theorem RX.Cb (h:RX σ tm M st) {s key s':Nat} {rows:List (Option (Nat × List (List AV)))} (e:c7 M key=some (s',.mx rows)) (hm:FV s M=false) (ht:G3 s tm=false) :
  RX (CQ σ s λ t=>match t with|0=>(s',st.own.g7 s')|i+1=>σ key (i+1)) tm ((s,s',.mx (rows++[none]))::n0 key M)
   ⟨st.tm,st.own.put s' (((st.own s').m7 (σ key 0).2 none).new ⟨1,BR σ key 0 rows++[[.nil]]⟩)⟩:=by
 have hs:=h.sat.site _ _ _ e;subst hs;have r0:=DS e;generalize hF:(λ t=>match t with|0=>((σ key 0).1,st.own.g7 (σ key 0).1)|i+1=>σ key (i+1):Nat->Nat × Nat)=F;have F0:F 0=((σ key 0).1,st.own.g7 (σ key 0).1):=by rw[<-hF]
 have F1 : ∀ i,F (i+1)=σ key (i+1):=by intro i;rw[<-hF]
 have ft:BR (CQ σ s F) s 0 (rows++[none])=BR σ key 0 rows++[[.nil]]:=by
  apply List.ext_getElem?;intro j;rw[EV,BN];rcases Nat.lt_trichotomy j rows.length with hj|hj|hj
  ·rw[List.getElem?_append_left hj,List.getElem?_append_left (by rw[EL];exact hj),EV]
   congr 1;funext r
   cases r with
   | none=>rfl
   | some x=>simp only[Nat.zero_add];rw[F1]
  ·subst hj
   rw[List.getElem?_append_right (Nat.le_refl _),List.getElem?_append_right (by rw[EL];exact Nat.le_refl _),EL];simp
  ·rw[List.getElem?_eq_none (by simp;omega),List.getElem?_eq_none (by simp [EL];omega)];rfl
 have uy : ∀ j t c',c6 M j t=some c'->GA s c'=false/\j≠s:=by
  intro j t c' g;obtain ⟨s1,c0,g1,g2,g3⟩:=H7 g;obtain ⟨g4,g5⟩:=MM hm _ _ _ g1;refine ⟨?_,g4⟩;cases t with
  | zero=>rw[g2 rfl];exact g5
  | succ i=>obtain ⟨rows,z,es,_,_,rfl⟩:=g3 i rfl;rfl
 have hg : ∀ j t c,c6 ((s,(σ key 0).1,.mx (rows++[none]))::n0 key M) j t=some c ->
   (j=s/\t=0/\c = .mx (rows++[none]))\/(j=s/\t≠0/\c6 M key t=some c)\/(j≠s/\j≠key/\c6 M j t=some c):=by
  intro j t c g;by_cases hj:j=s
  ·subst hj
   cases t with
   | zero=>rw[PB]at g;exact Or.inl ⟨rfl,rfl,(Option.some.inj g).symm⟩
   | succ t =>
    simp only[c6,c7,Nat.beq_refl,cond_true]at g;rcases Nat.lt_trichotomy t rows.length with iw|iw|iw
    ·rw[List.getElem?_append_left iw]at g
     refine Or.inr (Or.inl ⟨rfl,by omega,?_⟩);simp only[c6,e];exact g
    ·subst iw
     rw[List.getElem?_append_right (Nat.le_refl _),Nat.sub_self]at g;simp at g
    ·rw[List.getElem?_eq_none (by simp;omega)]at g;cases g
  ·rw[ML hj]at g
   obtain ⟨g1,g2⟩:=JQ g;exact Or.inr (Or.inr ⟨hj,g1,g2⟩)
 refine ⟨λ j => ?_,⟨?_,?_,?_,?_,?_⟩⟩
 ·rw[VT (QU ht j)];exact h.tm j
 ·intro j s1 c g
  simp only[c7]at g;cases hb:Nat.beq j s<;>simp only[hb,cond_true,cond_false]at g
  ·rw[CE _ (EY.1 hb)];exact h.sat.site _ _ _ (MK g).2
  ·simp only[Option.some.injEq,Prod.mk.injEq]at g
   rw[BB.1 hb,BN,F0,<-g.1]
 ·intro j t c g
  rcases hg j t c g with ⟨rfl,rfl,rfl⟩|⟨rfl,h0,g2⟩|⟨h0,h1,g2⟩
  ·rw[BN,F0]
   simp only[A3.c9,ft];simp [AG.g9,BU.new,AG.g7,BU.m7]
  ·obtain ⟨t',rfl⟩ : ∃ t',t=t'+1:=⟨t-1,by omega⟩
   rw[BN,F1];have hb:c.c9 (CQ σ j F) j=c.c9 σ key:=by
    obtain ⟨_,_,_,_,g3⟩:=H7 g2;obtain ⟨_,_,_,_,_,rfl⟩:=g3 t' rfl;rfl
   rw[hb];exact (O7 (λ he=>absurd (h.sat.inj _ _ _ _ _ _ g2 r0 he).2 (by omega)) (h.sat.old _ _ _ g2)).trans (h.sat.c9 _ _ _ g2)
  ·rw[CE _ h0,TP (uy _ _ _ g2).1 h0]
   exact (O7 (λ he=>h1 (h.sat.inj _ _ _ _ _ _ g2 r0 he).1) (h.sat.old _ _ _ g2)).trans (h.sat.c9 _ _ _ g2)
 ·intro j t c g
  rcases hg j t c g with ⟨rfl,rfl,rfl⟩|⟨rfl,h0,g2⟩|⟨h0,h1,g2⟩
  ·rw[BN,F0]
   simp [AG.g9,BU.new,AG.g7,BU.m7]
  ·obtain ⟨t',rfl⟩ : ∃ t',t=t'+1:=⟨t-1,by omega⟩
   rw[BN,F1];exact Nat.lt_of_lt_of_le (h.sat.old _ _ _ g2) (O8 _)
  ·rw[CE _ h0]
   exact Nat.lt_of_lt_of_le (h.sat.old _ _ _ g2) (O8 _)
 ·have hold : ∀ j t c,c6 ((s,(σ key 0).1,.mx (rows++[none]))::n0 key M) j t=some c->(j=s/\t=0) \/ ∃ j0 t0 c0,c6 M j0 t0=some c0/\CQ σ s F j t=σ j0 t0/\((j0=key/\t0=t/\j=s)\/(j0=j/\t0=t/\j≠key)):=by
   intro j t c g;rcases hg j t c g with ⟨rfl,rfl,rfl⟩|⟨rfl,h0,g2⟩|⟨h0,h1,g2⟩
   ·exact Or.inl ⟨rfl,rfl⟩
   ·obtain ⟨t',rfl⟩ : ∃ t',t=t'+1:=⟨t-1,by omega⟩
    exact Or.inr ⟨_,_,_,g2,by rw[BN,F1],Or.inl ⟨rfl,rfl,rfl⟩⟩
   ·exact Or.inr ⟨_,_,_,g2,by rw[CE _ h0],Or.inr ⟨rfl,rfl,h1⟩⟩
  have ik : ∀ j0 t0 c0,c6 M j0 t0=some c0->CQ σ s F s 0≠σ j0 t0:=by
   intro j0 t0 c0 g he;rw[BN,F0]at he;have:=h.sat.old _ _ _ g
   rw[<-he]at this;exact absurd this (Nat.lt_irrefl _)
  intro j t j' t' c c' g g' hj;rcases hold j t c g with ⟨rfl,rfl⟩|⟨j0,t0,c0,a1,a2,a3⟩<;>rcases hold j' t' c' g' with ⟨rfl,rfl⟩|⟨j1,t1,c1,b1,b2,b3⟩
  ·exact ⟨rfl,rfl⟩
  ·rw[b2]at hj;exact absurd hj (ik _ _ _ b1)
  ·rw[a2]at hj;exact absurd hj.symm (ik _ _ _ a1)
  ·rw[a2,b2]at hj
   obtain ⟨q1,q2⟩:=h.sat.inj _ _ _ _ _ _ a1 b1 hj;rcases a3 with ⟨x1,x2,x3⟩|⟨x1,x2,x3⟩<;>rcases b3 with ⟨y1,y2,y3⟩|⟨y1,y2,y3⟩
   ·exact ⟨x3.trans y3.symm,x2.symm.trans (q2.trans y2)⟩
   ·exact absurd (y1.symm.trans (q1.symm.trans x1)) y3
   ·exact absurd (x1.symm.trans (q1.trans y1)) x3
   ·exact ⟨x1.symm.trans (q1.trans y1),x2.symm.trans (q2.trans y2)⟩
 ·intro j t c g hw
  rcases hg j t c g with ⟨rfl,rfl,rfl⟩|⟨rfl,h0,g2⟩|⟨h0,h1,g2⟩
  ·rw[BN,F0];exact h.sat.low _ _ _ r0 rfl
  ·obtain ⟨t',rfl⟩ : ∃ t',t=t'+1:=⟨t-1,by omega⟩
   rw[BN,F1];exact h.sat.low _ _ _ g2 hw
  ·rw[CE _ h0];exact h.sat.low _ _ _ g2 hw
theorem WP {k:Nat} {v:AV} (h:LV k v=false):MX k v=false:=by
 cases v with
 | row j t z o n=>simp only[LV]at h;simp only[MX,h,cond_false]
 | ptr j t a b=>simp only[LV]at h;simp only[MX,h,cond_false]
 | _=>rfl
theorem RH {k:Nat} : ∀ {cs:List AV},G2 k cs=false->MB k cs=false
 | [],_=>rfl
 | c::r,h=>by
  simp only[G2]at h;cases h1:LV k c<;>simp only[h1,cond_true,cond_false]at h
  ·simp only[MB,WP h1,cond_false,RH h]
  ·cases h
theorem cH {k:Nat} : ∀ {es:List (List AV)},HY k es=false->P7 k es=false
 | [],_=>rfl
 | c::r,h=>by
  simp only[HY]at h;cases h1:G2 k c<;>simp only[h1,cond_true,cond_false]at h
  ·simp only[P7,RH h1,cond_false,cH h]
  ·cases h
theorem RG {k:Nat} {v:AV} (h:NF k v=false):OT k v=false:=by
 cases v with
 | agg cs=>exact RH h
 | fn p f g cs=>exact RH h
 | row a b c d e=>exact WP (v := .row a b c d e) h
 | ptr a b c d=>exact WP (v := .ptr a b c d) h
 | _=>rfl
theorem cG {k:Nat} : ∀ {cs:List AV},QT k cs=false->P6 k cs=false
 | [],_=>rfl
 | c::r,h=>by
  simp only[QT]at h;cases h1:NF k c<;>simp only[h1,cond_true,cond_false]at h
  ·simp only[P6,RG h1,cond_false,cG h]
  ·cases h
theorem rS {k:Nat} {v:AV} (h:LW k v=false):NU k v=false:=by
 cases v with
 | j4 cs=>exact cG h
 | agg cs=>exact RG (v := .agg cs) h
 | fn p f g cs=>exact RG (v := .fn p f g cs) h
 | row a b c d e=>exact RG (v := .row a b c d e) h
 | ptr a b c d=>exact RG (v := .ptr a b c d) h
 | _=>rfl
theorem cK {k:Nat} : ∀ {tm:Tm},G3 k tm=false->MC k tm=false
 | [],_=>rfl
 | (i,v)::r,h=>by
  simp only[G3]at h;cases h1:LW k v<;>simp only[h1,cond_true,cond_false]at h
  ·simp only[MC,rS h1,cond_false,cK h]
  ·cases h
theorem cJ {k:Nat} : ∀ {M:Mem},FV k M=false->IQ k M=false
 | [],_=>rfl
 | (i,s,c)::r,h=>by
  simp only[FV]at h;cases h0:Nat.beq k i<;>simp only[h0,cond_true,cond_false]at h
  ·cases h1:GA k c<;>simp only[h1,cond_true,cond_false]at h
   ·have:MY k c=false:=by
     cases c with
     | bx cs=>exact RH h1
     | bs z es=>exact cH h1
     | _=>rfl
    simp only[IQ,this,cond_false,cJ h]
   ·cases h
  ·cases h
theorem RX.Ql {M1 M2:Mem} (hm : ∀ k,c7 M1 k=c7 M2 k) (h:RX σ tm M1 st):RX σ tm M2 st:=by
 have hr : ∀ k t,c6 M1 k t=c6 M2 k t:=λ k t=>by simp only[c6,hm]
 refine ⟨h.tm,⟨λ k s c e => ?_,λ k t c e => ?_,λ k t c e => ?_,λ k t k' t' c c' e e' => ?_,λ k t c e hw => ?_⟩⟩
 ·rw[<-hm]at e;exact h.sat.site _ _ _ e
 ·rw[<-hr]at e;exact h.sat.c9 _ _ _ e
 ·rw[<-hr]at e;exact h.sat.old _ _ _ e
 ·rw[<-hr]at e e';exact h.sat.inj _ _ _ _ _ _ e e'
 ·rw[<-hr]at e;exact h.sat.low _ _ _ e hw
theorem RX.Fg (h:RX σ tm M st) {s q k2 s2 z:Nat} {es:List (List AV)} (e2:c7 M k2=some (s2,.rw z es)) (hk:s≠k2) (hm:FV s M=false) (ht:G3 s tm=false) (hq:D8 q=true) :
  ∃ σ',σ' s 0=(q,st.own.g7 q)/\RX σ' tm ((s,q,.mx [some (z,es)])::n0 k2 M) ⟨st.tm,st.own.put q ((st.own q).new ⟨1,[[.row (σ k2 0).1 (σ k2 0).2 z 0 es.length]]⟩)⟩:=by
 have ch:A3.flat (.mx [none]):=by
  intro i x hx;cases i with
  | zero=>simp at hx
  | succ i=>simp at hx
 have h1:=h.aj (s:=s) (q:=q) hm ht (.mx [none]) ch rfl (λ_=>hq);have tj:c7 ((s,q,.mx [none])::M) k2=some (s2,.rw z es):=by
  simp only[c7,EY.2 (λ e=>hk e.symm),cond_false];exact e2
 have nn:IQ s ((s,q,.mx [none])::M)=false:=by simp only[IQ,MY,cond_false,cJ hm]
 have h2:=h1.ve (k:=s) (s:=q) (k2:=k2) (i:=0) (rows:=[none]) (c0 := .mx [none]) (by simp [c7]) (Or.inl rfl) tj hk (cK ht) nn (by simp);refine ⟨CQ σ s (λ t=>if t=0+1 then σ k2 0 else (q,st.own.g7 q)),?_,?_⟩
 ·rw[BN];simp
 ·have hσ:(CQ (CQ σ s λ_=>(q,st.own.g7 q)) s λ t=>if t=0+1 then (CQ σ s λ_=>(q,st.own.g7 q)) k2 0 else (CQ σ s λ_=>(q,st.own.g7 q)) s t)=CQ σ s (λ t=>if t=0+1 then σ k2 0 else (q,st.own.g7 q)):=by
   funext j t
   by_cases hj:j=s
   ·subst hj;rw[BN,BN];simp only[BN,CE _ (λ e=>hk e.symm)]
   ·rw[CE _ hj,CE _ hj,CE _ hj]
  rw[hσ]at h2;have hM:n0 k2 ((s,q,A3.mx [none])::M)=(s,q,.mx [none])::n0 k2 M:=by
   simp only[n0,EY.2 (λ e=>hk e.symm),cond_false]
  rw[hM]at h2;have ho : ∀ b b':DE,(st.own.put q ((st.own q).new b)).put q (((st.own.put q ((st.own q).new b)) q).m7 (st.own.g7 q) (some b'))=st.own.put q ((st.own q).new b'):=by
   intro b b';rw[AG.dk,AG.g9];congr 1;simp only[BU.m7,BU.new,AG.g7,BU.mk.injEq,true_and];funext t'
   by_cases iw:t'=(st.own q).g7<;>simp [iw]
  have hn:(CQ σ s λ_=>(q,st.own.g7 q)) s 0=(q,st.own.g7 q):=by rw[BN]
  have gx:(CQ σ s λ_=>(q,st.own.g7 q)) k2=σ k2:=CE _ (λ e=>hk e.symm);simp only[hn,gx]at h2;rw[ho]at h2;refine RX.Ql (λ k => ?_) h2;simp only[c7];cases Nat.beq k s<;>rfl
theorem RX.Ca (h:RX σ tm M st) {s key k2 ky s' s2 z:Nat} {rows:List (Option (Nat × List (List AV)))} {es:List (List AV)} (e:c7 M key=some (s',.mx rows)) (e2:c7 M k2=some (s2,.rw z es)) (hk:key≠k2) (hm:FV s M=false) (ht:G3 s tm=false) :
  RX (CQ σ s λ t=>match t with|0=>(s',st.own.g7 s')|i+1=>if i=rows.length then σ k2 0 else σ key (i+1)) tm ((s,s',.mx (rows++[some (z,es)]))::n0 key (n0 k2 (n0 ky M)))
   ⟨st.tm,st.own.put s' (((st.own s').m7 (σ key 0).2 none).new ⟨1,BR σ key 0 rows++[[.row (σ k2 0).1 (σ k2 0).2 z 0 es.length]]⟩)⟩:=by
 have hs:=h.sat.site _ _ _ e;subst hs;have r0:=DS e;have r2:=DS e2;generalize hF:(λ t=>match t with|0=>((σ key 0).1,st.own.g7 (σ key 0).1)|i+1=>if i=rows.length then σ k2 0 else σ key (i+1):Nat->Nat × Nat)=F;have F0:F 0=((σ key 0).1,st.own.g7 (σ key 0).1):=by rw[<-hF]
 have F1 : ∀ i,F (i+1)=if i=rows.length then σ k2 0 else σ key (i+1):=by intro i;rw[<-hF]
 have ft:BR (CQ σ s F) s 0 (rows++[some (z,es)])=BR σ key 0 rows++[[.row (σ k2 0).1 (σ k2 0).2 z 0 es.length]]:=by
  apply List.ext_getElem?;intro j;rw[EV,BN];rcases Nat.lt_trichotomy j rows.length with hj|hj|hj
  ·rw[List.getElem?_append_left hj,List.getElem?_append_left (by rw[EL];exact hj),EV]
   congr 1;funext r
   cases r with
   | none=>rfl
   | some x=>simp only[Nat.zero_add];rw[F1,if_neg (by omega)]
  ·subst hj
   rw[List.getElem?_append_right (Nat.le_refl _),List.getElem?_append_right (by rw[EL];exact Nat.le_refl _),EL];simp [F1]
  ·rw[List.getElem?_eq_none (by simp;omega),List.getElem?_eq_none (by simp [EL];omega)];rfl
 have uy : ∀ j t c',c6 M j t=some c'->GA s c'=false/\j≠s:=by
  intro j t c' g;obtain ⟨s1,c0,g1,g2,g3⟩:=H7 g;obtain ⟨g4,g5⟩:=MM hm _ _ _ g1;refine ⟨?_,g4⟩;cases t with
  | zero=>rw[g2 rfl];exact g5
  | succ i=>obtain ⟨rows,z,es,_,_,rfl⟩:=g3 i rfl;rfl
 have hg : ∀ j t c,c6 ((s,(σ key 0).1,.mx (rows++[some (z,es)]))::n0 key (n0 k2 (n0 ky M))) j t=some c ->
   (j=s/\t=0/\c = .mx (rows++[some (z,es)]))\/(j=s/\t=rows.length+1/\c = .rw z es)\/(j=s/\t≠0/\t≠rows.length+1/\c6 M key t=some c)\/(j≠s/\j≠key/\j≠k2/\c6 M j t=some c):=by
  intro j t c g;by_cases hj:j=s
  ·subst hj
   cases t with
   | zero=>rw[PB]at g;exact Or.inl ⟨rfl,rfl,(Option.some.inj g).symm⟩
   | succ t =>
    simp only[c6,c7,Nat.beq_refl,cond_true]at g;rcases Nat.lt_trichotomy t rows.length with iw|iw|iw
    ·rw[List.getElem?_append_left iw]at g
     refine Or.inr (Or.inr (Or.inl ⟨rfl,by omega,by omega,?_⟩));simp only[c6,e];exact g
    ·subst iw
     rw[List.getElem?_append_right (Nat.le_refl _),Nat.sub_self]at g;exact Or.inr (Or.inl ⟨rfl,rfl,(Option.some.inj g).symm⟩)
    ·rw[List.getElem?_eq_none (by simp;omega)]at g;cases g
  ·rw[ML hj]at g
   obtain ⟨g1,g2⟩:=JQ g;obtain ⟨g3,g4⟩:=JQ g2;obtain ⟨_,g5⟩:=JQ g4;exact Or.inr (Or.inr (Or.inr ⟨hj,g1,g3,g5⟩))
 refine ⟨λ j => ?_,⟨?_,?_,?_,?_,?_⟩⟩
 ·rw[VT (QU ht j)];exact h.tm j
 ·intro j s1 c g
  simp only[c7]at g;cases hb:Nat.beq j s<;>simp only[hb,cond_true,cond_false]at g
  ·rw[CE _ (EY.1 hb)];exact h.sat.site _ _ _ (MK (MK (MK g).2).2).2
  ·simp only[Option.some.injEq,Prod.mk.injEq]at g
   rw[BB.1 hb,BN,F0,<-g.1]
 ·intro j t c g
  rcases hg j t c g with ⟨rfl,rfl,rfl⟩|⟨rfl,rfl,rfl⟩|⟨rfl,h0,h1,g2⟩|⟨h0,h1,h2,g2⟩
  ·rw[BN,F0]
   simp only[A3.c9,ft];simp [AG.g9,BU.new,AG.g7,BU.m7]
  ·rw[BN,F1,if_pos rfl]
   exact (O7 (λ he=>hk (h.sat.inj _ _ _ _ _ _ r2 r0 he).1.symm) (h.sat.old _ _ _ r2)).trans (h.sat.c9 _ _ _ r2)
  ·obtain ⟨t',rfl⟩ : ∃ t',t=t'+1:=⟨t-1,by omega⟩
   rw[BN,F1,if_neg (by omega)];have hb:c.c9 (CQ σ j F) j=c.c9 σ key:=by
    obtain ⟨_,_,_,_,g3⟩:=H7 g2;obtain ⟨_,_,_,_,_,rfl⟩:=g3 t' rfl;rfl
   rw[hb];exact (O7 (λ he=>absurd (h.sat.inj _ _ _ _ _ _ g2 r0 he).2 (by omega)) (h.sat.old _ _ _ g2)).trans (h.sat.c9 _ _ _ g2)
  ·rw[CE _ h0,TP (uy _ _ _ g2).1 h0]
   exact (O7 (λ he=>h1 (h.sat.inj _ _ _ _ _ _ g2 r0 he).1) (h.sat.old _ _ _ g2)).trans (h.sat.c9 _ _ _ g2)
 ·intro j t c g
  rcases hg j t c g with ⟨rfl,rfl,rfl⟩|⟨rfl,rfl,rfl⟩|⟨rfl,h0,h1,g2⟩|⟨h0,h1,h2,g2⟩
  ·rw[BN,F0]
   simp [AG.g9,BU.new,AG.g7,BU.m7]
  ·rw[BN,F1,if_pos rfl]
   exact Nat.lt_of_lt_of_le (h.sat.old _ _ _ r2) (O8 _)
  ·obtain ⟨t',rfl⟩ : ∃ t',t=t'+1:=⟨t-1,by omega⟩
   rw[BN,F1,if_neg (by omega)];exact Nat.lt_of_lt_of_le (h.sat.old _ _ _ g2) (O8 _)
  ·rw[CE _ h0]
   exact Nat.lt_of_lt_of_le (h.sat.old _ _ _ g2) (O8 _)
 ·have hold : ∀ j t c,c6 ((s,(σ key 0).1,.mx (rows++[some (z,es)]))::n0 key (n0 k2 (n0 ky M))) j t=some c->(j=s/\t=0) \/ ∃ j0 t0 c0,c6 M j0 t0=some c0/\CQ σ s F j t=σ j0 t0/\((j0=k2/\t0=0/\j=s/\t=rows.length+1)\/(j0=key/\t0=t/\j=s)\/(j0=j/\t0=t/\j≠key/\j≠k2)):=by
   intro j t c g;rcases hg j t c g with ⟨rfl,rfl,rfl⟩|⟨rfl,rfl,rfl⟩|⟨rfl,h0,h1,g2⟩|⟨h0,h1,h2,g2⟩
   ·exact Or.inl ⟨rfl,rfl⟩
   ·exact Or.inr ⟨_,_,_,r2,by rw[BN,F1,if_pos rfl],Or.inl ⟨rfl,rfl,rfl,rfl⟩⟩
   ·obtain ⟨t',rfl⟩ : ∃ t',t=t'+1:=⟨t-1,by omega⟩
    exact Or.inr ⟨_,_,_,g2,by rw[BN,F1,if_neg (by omega)],Or.inr (Or.inl ⟨rfl,rfl,rfl⟩)⟩
   ·exact Or.inr ⟨_,_,_,g2,by rw[CE _ h0],Or.inr (Or.inr ⟨rfl,rfl,h1,h2⟩)⟩
  have ik : ∀ j0 t0 c0,c6 M j0 t0=some c0->CQ σ s F s 0≠σ j0 t0:=by
   intro j0 t0 c0 g he;rw[BN,F0]at he;have:=h.sat.old _ _ _ g
   rw[<-he]at this;exact absurd this (Nat.lt_irrefl _)
  intro j t j' t' c c' g g' hj;rcases hold j t c g with ⟨rfl,rfl⟩|⟨j0,t0,c0,a1,a2,a3⟩<;>rcases hold j' t' c' g' with ⟨rfl,rfl⟩|⟨j1,t1,c1,b1,b2,b3⟩
  ·exact ⟨rfl,rfl⟩
  ·rw[b2]at hj;exact absurd hj (ik _ _ _ b1)
  ·rw[a2]at hj;exact absurd hj.symm (ik _ _ _ a1)
  ·rw[a2,b2]at hj
   obtain ⟨q1,q2⟩:=h.sat.inj _ _ _ _ _ _ a1 b1 hj;rcases a3 with ⟨x1,x2,x3,x4⟩|⟨x1,x2,x3⟩|⟨x1,x2,x3,x4⟩<;>rcases b3 with ⟨y1,y2,y3,y4⟩|⟨y1,y2,y3⟩|⟨y1,y2,y3,y4⟩
   ·exact ⟨x3.trans y3.symm,x4.trans y4.symm⟩
   ·exact absurd (y1.symm.trans (q1.symm.trans x1)) hk
   ·exact absurd (y1.symm.trans (q1.symm.trans x1)) y4
   ·exact absurd (x1.symm.trans (q1.trans y1)) hk
   ·exact ⟨x3.trans y3.symm,x2.symm.trans (q2.trans y2)⟩
   ·exact absurd (y1.symm.trans (q1.symm.trans x1)) y3
   ·exact absurd (x1.symm.trans (q1.trans y1)) x4
   ·exact absurd (x1.symm.trans (q1.trans y1)) x3
   ·exact ⟨x1.symm.trans (q1.trans y1),x2.symm.trans (q2.trans y2)⟩
 ·intro j t c g hw
  rcases hg j t c g with ⟨rfl,rfl,rfl⟩|⟨rfl,rfl,rfl⟩|⟨rfl,h0,h1,g2⟩|⟨h0,h1,h2,g2⟩
  ·rw[BN,F0];exact h.sat.low _ _ _ r0 rfl
  ·rw[BN,F1,if_pos rfl];exact h.sat.low _ _ _ r2 rfl
  ·obtain ⟨t',rfl⟩ : ∃ t',t=t'+1:=⟨t-1,by omega⟩
   rw[BN,F1,if_neg (by omega)];exact h.sat.low _ _ _ g2 hw
  ·rw[CE _ h0];exact h.sat.low _ _ _ g2 hw
theorem FX (k:IntKind) (n:Int):A8 σ (.int k n) = .int k n:=rfl
theorem FW (b:Bool):A8 σ (.bool b) = .bool b:=rfl
theorem FY (l:Bool) (es:List (List AV)):A8 σ (.sl l es) = .sl l es:=rfl
theorem CN (k t z o n:Nat):A8 σ (.row k t z o n) = .row (σ k t).1 (σ k t).2 z o n:=rfl
theorem DN (k t i j:Nat):A8 σ (.ptr k t i j) = .ptr (σ k t).1 (σ k t).2 i j:=rfl
theorem HN (cs:List AV):A8 σ (.o7 cs) = .o7 cs:=rfl
theorem EI:A8 σ .nil = .nil:=rfl
theorem GR (cs:List AV):A8 σ (.agg cs) = .agg (cs.map (A5 σ)):=rfl
theorem Ly (v:Value):A8 σ (.z8 v) = .z8 v:=rfl
theorem ZT (p:Bool) (f g:Nat) (cs:List AV):A8 σ (.fn p f g cs) = .fn p f g (cs.map (A5 σ)):=rfl
theorem G4 (cs:List AV):A8 σ (.j4 cs) = .j4 (cs.map (BM σ)):=rfl
def BT.res (own:AG):BT->AV × AG
 | .val v=>(v,own)
 | .new s b f=>(f (own.g7 s),own.put s ((own s).new b))
 | .rh s b f=>(f (own.g7 s),own.put s ((own s).new b))
 | .y9 v o=>(v,o)
 | .m7 s x=>(.j4 [],own.put s x)
 | .na s x v=>(v,own.put s x)
theorem WH (st:St) (d:Option Nat) (E:BT):st.app d E=⟨(st.dst d (E.res st.own).1).tm,(E.res st.own).2⟩:=by
 cases E<;>cases d<;>rfl
def BD (L:Lib) (tm:Tm) (b9:List Nat) (K:AV->Mem->Prop) (op:DG) (st:St):Prop :=
 ∃ E σ' v M',(∀ c,c8 (C5 L c) b9 st.ev st.own op=some E)/\K v M'/\(E.res st.own).1=A8 σ' v/\RX σ' tm M' ⟨st.tm,(E.res st.own).2⟩
theorem BD.val {L:Lib} {b9:List Nat} {K:AV->Mem->Prop} {op:DG} (h:RX σ tm M st) (v:AV) (he : ∀ c,c8 (C5 L c) b9 st.ev st.own op=some (.val (A8 σ v))) (hk:K v M):BD L tm b9 K op st :=
 ⟨_,σ,v,M,he,hk,rfl,h⟩
variable {L:Lib} {b9:List Nat} {K:AV->Mem->Prop}
theorem qR {x:AM} (hr:RX σ tm M st) (h:XE L tm M b9 K (.b7 x)):BD L tm b9 K (.b7 x) st:=by
 simp only[XE]at h;obtain ⟨h1,h2⟩:=UM h;exact BD.val hr _ (λ C=>by simp only[c8,hr.ev rfl h1]) h2
theorem qY {s z:Nat} (hr:RX σ tm M st) (h:XE L tm M b9 K (.y6 s z)):BD L tm b9 K (.y6 s z) st:=by
 simp only[XE]at h;cases bf:D8 s<;>simp only[bf,cond_true,cond_false]at h;obtain ⟨k,h1,h2,h3⟩:=FQ h;refine ⟨_,_,_,_,λ C=>rfl,h3,?_,hr.aj h1 h2 (.rw z []) trivial rfl (λ_=>bf)⟩;simp only[BT.res,CN,DN,BN]
theorem qT {c a b:AM} (hr:RX σ tm M st) (h:XE L tm M b9 K (.pick c a b)):BD L tm b9 K (.pick c a b) st:=by
 simp only[XE]at h;split at h
 ·rename_i e
  obtain ⟨h1,h2⟩:=UM h;exact BD.val hr _ (λ C=>by simp only[c8,hr.ev e (by intro e;cases e),hr.ev rfl h1,FX,FW,FY,CN,DN,HN,EI,GR,G4]) h2
 ·rename_i e
  obtain ⟨h1,h2⟩:=UM h;exact BD.val hr _ (λ C=>by simp only[c8,hr.ev e (by intro e;cases e),hr.ev rfl h1,FX,FW,FY,CN,DN,HN,EI,GR,G4]) h2
 ·exact h.elim
theorem zY {op:BinOp} {k k':IntKind} {a b:Int} {v:AV} (h:C6 op k a k' b=some v):A8 σ v=v:=by
 cases op<;>simp only[C6]at h<;>split at h<;>first|(obtain rfl:=Option.some.inj h;rfl)|cases h
theorem Jd {k k':IntKind} (h:kq k k'=true):k=k':=by simpa [kq] using h
theorem rJ {op:BinOp} {k k':IntKind} {a b:Int} {K:AV->Prop} (h:WK op k a k' b K) : ∃ v,C6 op k a k' b=some v/\K v:=by
 have key : ∀ (p q:Prop) [Decidable p] (A B:Prop) (c:Bool),(¬ p->q)->AF p q A B->(p/\A)\/(¬ p/\B):=by
  intro p q _ A B _ hq hc;by_cases hp:p
  ·exact Or.inl ⟨hp,hc.1 hp⟩
  ·exact Or.inr ⟨hp,hc.2 (hq hp)⟩
 cases op;all_goals try (exact h)
 all_goals (
  simp only[WK]at h;cases hk:kq k k'<;>simp only[hk,cond_true,cond_false]at h;obtain rfl:=Jd hk;simp only[C6,if_true])
 ·rcases key (a=b) _ _ _ true (λ e=>e) h with ⟨h1,h2⟩|⟨h1,h2⟩
  ·exact ⟨_,rfl,by rw[show (a == b)=true by simpa using h1];exact h2⟩
  ·exact ⟨_,rfl,by rw[show (a == b)=false by simpa using h1];exact h2⟩
 ·rcases key (a≠b) _ _ _ true (λ e=>by omega) h with ⟨h1,h2⟩|⟨h1,h2⟩
  ·exact ⟨_,rfl,by rw[show (a != b)=true by simpa using h1];exact h2⟩
  ·exact ⟨_,rfl,by rw[show (a != b)=false by simpa using h1];exact h2⟩
 ·rcases key (a<b) _ _ _ true (λ e=>by omega) h with ⟨h1,h2⟩|⟨h1,h2⟩
  ·exact ⟨_,rfl,by simpa [h1] using h2⟩
  ·exact ⟨_,rfl,by simpa [h1] using h2⟩
 ·rcases key (a<=b) _ _ _ true (λ e=>by omega) h with ⟨h1,h2⟩|⟨h1,h2⟩
  ·exact ⟨_,rfl,by simpa [h1] using h2⟩
  ·exact ⟨_,rfl,by simpa [h1] using h2⟩
 ·rcases key (b<a) _ _ _ true (λ e=>by omega) h with ⟨h1,h2⟩|⟨h1,h2⟩
  ·exact ⟨_,rfl,by simpa [h1] using h2⟩
  ·exact ⟨_,rfl,by simpa [h1] using h2⟩
 ·rcases key (b<=a) _ _ _ true (λ e=>by omega) h with ⟨h1,h2⟩|⟨h1,h2⟩
  ·exact ⟨_,rfl,by simpa [h1] using h2⟩
  ·exact ⟨_,rfl,by simpa [h1] using h2⟩
theorem pY {op:BinOp} {x y:AM} (hr:RX σ tm M st) (h:XE L tm M b9 K (.bin op x y)):BD L tm b9 K (.bin op x y) st:=by
 simp only[XE]at h;split at h
 ·rename_i k a k' b e1 e2
  obtain ⟨v,hv,hk⟩:=rJ h;exact BD.val hr v (λ C=>by
   simp only[c8,hr.ev e1 (by intro e;cases e),hr.ev e2 (by intro e;cases e),FX,FW,FY,CN,DN,HN,EI,GR,G4,hv,Option.map_some];exact congrArg some (congrArg BT.val (zY (σ:=σ) hv).symm)) hk
 ·exact h.elim
theorem pX {ne:Bool} {x y:AM} (hr:RX σ tm M st) (h:XE L tm M b9 K (.beq ne x y)):BD L tm b9 K (.beq ne x y) st:=by
 simp only[XE]at h;split at h
 ·rename_i a b e1 e2
  rw[M8]at h;exact BD.val hr _ (λ C=>by
   simp only[c8,hr.ev e1 (by intro e;cases e),hr.ev e2 (by intro e;cases e),FX,FW,FY,CN,DN,HN,EI,GR,G4];cases ne<;>rfl) h
 ·exact h.elim
theorem YN : ∀ {cs:List AV} {a:List Int},G0 cs=some a->cs.map (A5 σ)=cs
 | [],_,_=>rfl
 | c::r,a,h=>by
  cases c with
  | int k n =>
   cases k<;>simp only[G0]at h<;>first|cases h|skip
   cases hr:G0 r with
   | none=>rw[hr]at h;cases h
   | some b=>rw[List.map_cons,YN hr];rfl
  | _=>simp only[G0]at h;cases h
theorem pP {ne:Bool} {n:Nat} {x y:AM} (hr:RX σ tm M st) (h:XE L tm M b9 K (.mf ne n x y)):BD L tm b9 K (.mf ne n x y) st:=by
 simp only[XE]at h;split at h
 ·rename_i cs ds e1 e2
  obtain ⟨a,b,h1,h2,h3,h4,h⟩:=h;rw[M8]at h;exact BD.val hr _ (λ C=>by
   simp only[c8,hr.ev e1 (by intro e;cases e),hr.ev e2 (by intro e;cases e),GR,YN h1,YN h2,h1,h2];rw[if_pos ⟨h3,h4⟩];cases ne<;>rfl) h
 ·exact h.elim
theorem qX {op:UnOp} {x:AM} (hr:RX σ tm M st) (h:XE L tm M b9 K (.un op x)):BD L tm b9 K (.un op x) st:=by
 simp only[XE]at h;split at h
 ·rename_i k n e1
  obtain ⟨v,hv,hk⟩:=h;refine BD.val hr v (λ C => ?_) hk;simp only[c8,hr.ev e1 (by intro e;cases e),FX,FW,FY,CN,DN,HN,EI,GR,G4,hv,Option.map_some];cases op<;>simp only[OE,Option.some.injEq,reduceCtorEq]at hv<;>subst hv<;>rfl
 ·rename_i b e1
  split at h
  ·rw[M8]at h
   exact BD.val hr _ (λ C=>by simp only[c8,hr.ev e1 (by intro e;cases e),FX,FW,FY,CN,DN,HN,EI,GR,G4,OE,Option.map_some]) h
  ·exact h.elim
 ·exact h.elim
theorem qD {k:IntKind} {x:AM} (hr:RX σ tm M st) (h:XE L tm M b9 K (.conv k x)):BD L tm b9 K (.conv k x) st:=by
 simp only[XE]at h;split at h
 ·rename_i k' n e1
  exact BD.val hr _ (λ C=>by simp only[c8,hr.ev e1 (by intro e;cases e),FX,FW,FY,CN,DN,HN,EI,GR,G4]) h
 ·exact h.elim
theorem pZ {s:Nat} {x:AM} (hr:RX σ tm M st) (h:XE L tm M b9 K (.box s x)):BD L tm b9 K (.box s x) st:=by
 simp only[XE]at h;obtain ⟨h0,cs,hc,h⟩:=UK h;obtain ⟨k,h1,h2,h3⟩:=FQ h;refine ⟨.new s (A3.c9 σ k (.bx cs)) (λ t => .ptr s t 0 0),_,_,_,λ C => ?_,h3,?_,hr.aj h1 h2 (.bx cs) trivial (kU (gP h2 x) hc) (λ h=>nomatch h)⟩
 ·simp only[c8,hr.ev rfl h0,MA hc,List.length_map,A3.c9]
 ·simp only[BT.res,CN,DN,BN]
theorem pQ {s:Nat} {z:List AV} (hr:RX σ tm M st) (h:XE L tm M b9 K (.alloc s z)):BD L tm b9 K (.alloc s z) st:=by
 simp only[XE]at h;cases hd:DQ z<;>simp only[hd,cond_true,cond_false]at h;obtain ⟨k,h1,h2,h3⟩:=FQ h;refine ⟨.new s (A3.c9 σ k (.bx z)) (λ t => .ptr s t 0 0),_,_,_,λ C => ?_,h3,?_,hr.aj h1 h2 (.bx z) trivial (WX hd) (λ h=>nomatch h)⟩
 ·simp only[c8,A3.c9,HS hd]
 ·simp only[BT.res,CN,DN,BN]
theorem SH {cs ds:List AV} {off n:Nat} (h:part cs off n=some ds):part (cs.map (A5 σ)) off n=some (ds.map (A5 σ)):=by
 simp only[part]at h ⊢;split at h
 ·rename_i hl
  rw[if_pos (by simpa using hl)];obtain rfl:=Option.some.inj h;rw[List.map_take,List.map_drop]
 ·cases h
theorem gR {v:AV} {K:AV->Prop} (h:fF v K):v ≠ .any/\A8 σ v=A5 σ v/\K v:=by
 cases v<;>simp only[fF]at h<;>first|exact h.elim|exact ⟨(by intro e;cases e),rfl,h⟩
theorem ND (σ:E4) {agg:Bool} {ds:List AV} {K:AV->Prop} (h:jv agg ds K) : ∃ v,HV agg (ds.map (A5 σ))=some (A8 σ v)/\K v:=by
 cases agg
 ·simp only[jv]at h
  split at h
  ·rename_i c
   obtain ⟨_,h1,h2⟩:=gR (σ:=σ) h;exact ⟨c,by rw[h1];rfl,h2⟩
  ·exact h.elim
 ·exact ⟨.agg ds,rfl,h⟩
theorem mD {cs vs:List AV} {j:Nat}:(splice cs j vs).map (A5 σ)=splice (cs.map (A5 σ)) j (vs.map (A5 σ)):=by
 simp only[splice,List.map_append,List.map_take,List.map_drop,List.length_map]
theorem gW (hr:RX σ tm M st) : ∀ {ps:List (Nat × Nat × AM)} {cells:List AV} {K:List AV->Prop},X6 tm ps cells K -> ∃ cs,fill (cells.map (A5 σ)) (ps.map λ p=>(p.1,p.2.1,st.ev p.2.2))=some (cs.map (A5 σ))/\K cs
 | [],cells,K,h=>⟨cells,rfl,h⟩
 | p::r,cells,K,h=>by
  obtain ⟨h0,vs,hc,h⟩:=UK (show fC (ex tm p.2.2) λ vs=>bif Nat.beq vs.length p.2.1 then bif Nat.ble (p.1+p.2.1) cells.length then fL (splice cells p.1 vs) λ cells=>X6 tm r cells K else False else False from h);cases hz:Nat.beq vs.length p.2.1<;>simp only[hz,cond_true,cond_false]at h;have hl:Nat.ble (p.1+p.2.1) cells.length=true:=by
   cases hl:Nat.ble (p.1+p.2.1) cells.length
   ·rw[hl]at h;exact h.elim
   ·rfl
  rw[hl]at h;simp only[cond_true,F7]at h;obtain ⟨cs,h1,h2⟩:=gW hr h;refine ⟨cs,?_,h2⟩;simp only[List.map_cons,fill,hr.ev rfl h0,MA hc,List.length_map];rw[if_pos ⟨BB.1 hz,Nat.le_of_ble_eq_true hl⟩,<-mD];exact h1
theorem qB {z:List AV} {ps:List (Nat × Nat × AM)} (hr:RX σ tm M st) (h:XE L tm M b9 K (.build z ps)):BD L tm b9 K (.build z ps) st:=by
 simp only[XE]at h;cases hd:DQ z<;>simp only[hd,cond_true,cond_false]at h;obtain ⟨cs,h1,h2⟩:=gW hr h;refine BD.val hr (.agg cs) (λ C => ?_) h2;rw[HS hd]at h1;simp only[c8,h1];rfl
theorem gO : ∀ l:List AM,NY tm l=l.map (ex tm)
 | []=>rfl
 | x::r=>by rw[NY,gO r];rfl
theorem dM : ∀ {es:List (List AV)},RO es=true -> ∀ e∈es,DQ e=true
 | e0::r,h,e,he=>by
  simp only[RO]at h;cases h1:DQ e0<;>simp only[h1,cond_true,cond_false]at h
  ·cases h
  ·rcases List.mem_cons.1 he with rfl|he
   ·exact h1
   ·exact dM h e he
theorem sY {es:List (List AV)} (h : ∀ e∈es,DQ e=true):(es.map λ cs=>cs.map (A5 σ))=es:=by
 conv=>rhs;rw[<-List.map_id es]
 exact List.map_congr_left λ e he=>HS (h e he)
theorem YU {es:List (List AV)} {K:Nat->Prop} (h:R8 es K):K es.length:=by
 unfold R8 at h;split at h<;>exact h
theorem cE (hr:RX σ tm M st) {z:Nat} : ∀ {l:List AM} {K:List (List AV)->Prop},WN tm z l K -> ∃ es,l.mapM (λ x=>cellsOf (st.ev x))=some (es.map λ cs=>cs.map (A5 σ))/\(∀ e∈es,e.length=z)/\(∀ k,G3 k tm=false->HY k es=false)/\K es
 | [],K,h=>⟨[],rfl,(λ e he=>by cases he),λ_ _=>rfl,h⟩
 | x::r,K,h=>by
  obtain ⟨h0,cs,hc,h⟩:=UK (show fC (ex tm x) λ cs=>bif Nat.beq cs.length z then WN tm z r λ es=>K (cs::es) else False from h);cases hz:Nat.beq cs.length z<;>simp only[hz,cond_true,cond_false]at h;obtain ⟨es,h1,h2,h4,h3⟩:=cE hr h;refine ⟨cs::es,?_,λ e he => ?_,λ k hk => ?_,h3⟩
  ·rw[List.mapM_cons,h1,hr.ev rfl h0,MA hc];rfl
  ·rcases List.mem_cons.1 he with rfl|he
   ·exact BB.1 hz
   ·exact h2 e he
  ·simp only[HY,kU (gP hk x) hc,cond_false,h4 k hk]
theorem vZ (hr:RX σ tm M st) {xs:List AM} (h : ∀ v∈NY tm xs,v ≠ .any):xs.map st.ev=(NY tm xs).map (A8 σ):=by
 rw[gO]at h ⊢;rw[List.map_map];exact List.map_congr_left λ x hx=>hr.ev rfl (h _ (List.mem_map_of_mem hx))
theorem qA {s z:Nat} {ps:List AM} (hr:RX σ tm M st) (h:XE L tm M b9 K (.e8 s z ps)):BD L tm b9 K (.e8 s z ps) st:=by
 simp only[XE]at h;cases bf:D8 s<;>simp only[bf,cond_true,cond_false]at h;obtain ⟨es,g1,g2,g3,h⟩:=cE hr h;obtain ⟨k,h1,h2,h3⟩:=FQ (YU h);have key : ∀ c:A3,c.flat->GA k c=false->c.c9 σ k=⟨z,es.map λ cs=>cs.map (A5 σ)⟩->K (.row k 0 z 0 es.length) ((k,s,c)::M)->BD L tm b9 K (.e8 s z ps) st:=by
  intro c hf hc hb hk;refine ⟨.new s (c.c9 σ k) (λ t => .row s t z 0 es.length),_,_,_,λ C => ?_,hk,?_,hr.aj h1 h2 c hf hc (λ_=>bf)⟩
  ·simp only[c8,g1,hb]
   rw[if_pos (λ e he=>by obtain ⟨e',du,rfl⟩:=List.mem_map.1 he;simpa using g2 e' du)];simp only[List.length_map]
  ·simp only[BT.res,CN,BN]
 cases hd:RO es<;>simp only[hd,cond_true,cond_false]at h3
 ·exact key (.bs z es) trivial (g3 k h2) rfl h3
 ·exact key (.rw z es) trivial rfl (by simp only[A3.c9];rw[sY (dM hd)]) h3
theorem qG {x:AM} {off:Nat} (hr:RX σ tm M st) (h:XE L tm M b9 K (.a6 x off)):BD L tm b9 K (.a6 x off) st:=by
 simp only[XE]at h;split at h
 ·rename_i key t i j e
  exact BD.val hr _ (λ C=>by simp only[c8,hr.ev e (by intro e;cases e),FX,FW,FY,CN,DN,HN,EI,GR,G4]) h
 ·rename_i cs e
  rw[F7]at h;exact BD.val hr _ (λ C=>by simp only[c8,hr.ev e (by intro e;cases e),FX,FW,FY,CN,DN,HN,EI,GR,G4]) h
 ·exact h.elim
theorem qH {x:AM} {off n:Nat} {agg:Bool} (hr:RX σ tm M st) (h:XE L tm M b9 K (.iq x off n agg)):BD L tm b9 K (.iq x off n agg) st:=by
 simp only[XE]at h;split at h
 ·rename_i cs e
  split at h
  ·rename_i ds hp
   rw[F7]at h;obtain ⟨v,h1,h2⟩:=ND σ h;exact BD.val hr v (λ C=>by simp only[c8,hr.ev e (by intro e;cases e),GR,SH hp,h1,Option.map_some]) h2
  ·exact h.elim
 ·exact h.elim
theorem qJ {arr:Option Nat} {z:Nat} {x i:AM} (hr:RX σ tm M st) (h:XE L tm M b9 K (.a8 arr z x i)):BD L tm b9 K (.a8 arr z x i) st:=by
 simp only[XE]at h;split at h
 ·rename_i kd n e1
  split at h
  ·rename_i len key t i' j e2
   obtain ⟨h1,h2⟩:=h;exact BD.val hr _ (λ C=>by simp only[c8,hr.ev e1 (by intro e;cases e),hr.ev e2 (by intro e;cases e),FX,FW,FY,CN,DN,HN,EI,GR,G4];rw[if_pos h1]) h2
  ·rename_i len cs e2
   obtain ⟨h1,h2⟩:=h;rw[F7]at h2;exact BD.val hr _ (λ C=>by simp only[c8,hr.ev e1 (by intro e;cases e),hr.ev e2 (by intro e;cases e),FX,FW,FY,CN,DN,HN,EI,GR,G4];rw[if_pos h1]) h2
  ·rename_i key t z' off len e2
   cases hz:Nat.beq z' z<;>simp only[hz,cond_true,cond_false]at h;obtain ⟨h1,h2⟩:=h;exact BD.val hr _ (λ C=>by simp only[c8,hr.ev e1 (by intro e;cases e),hr.ev e2 (by intro e;cases e),FX,FW,FY,CN,DN,HN,EI,GR,G4];rw[if_pos ⟨h1.1,h1.2,BB.1 hz⟩]) h2
  ·rename_i q es e2
   obtain ⟨h1,cs,h2,h3,h4⟩:=h;exact BD.val hr _ (λ C=>by simp only[c8,hr.ev e1 (by intro e;cases e),hr.ev e2 (by intro e;cases e),FX,FW,FY,CN,DN,HN,EI,GR,G4,h2];rw[if_pos h1,if_pos h3]) h4
  ·exact h.elim
 ·exact h.elim
theorem qK {len z:Nat} {agg:Bool} {x i:AM} (hr:RX σ tm M st) (h:XE L tm M b9 K (.idx len z agg x i)):BD L tm b9 K (.idx len z agg x i) st:=by
 simp only[XE]at h;split at h
 ·rename_i kd n cs e1 e2
  obtain ⟨h0,h⟩:=h;split at h
  ·rename_i ds hp
   rw[F7]at h;obtain ⟨v,h1,h2⟩:=ND σ h;exact BD.val hr v (λ C=>by simp only[c8,hr.ev e1 (by intro e;cases e),hr.ev e2 (by intro e;cases e),FX,FW,FY,CN,DN,HN,EI,GR,G4,SH hp,h1,Option.map_some];rw[if_pos h0]) h2
  ·exact h.elim
 ·exact h.elim
theorem QQ {s:Nat} {own:AG} : ∀ {b9:List Nat},N3 s b9=true->own.l9 b9 s=own s
 | [],_=>rfl
 | b::r,h=>by
  have hm:NB s (b::r)=false:=by simpa [N3] using h
  have : ∀ l:List Nat,NB s l=false->own.l9 l s=own s:=by
   intro l;induction l with
   | nil=>intro _;rfl
   | cons b r ih =>
    intro h;simp only[NB]at h;cases hb:Nat.beq s b<;>simp only[hb,cond_true,cond_false]at h
    ·simp only[AG.l9]
     rw[if_neg (EY.1 hb)];exact ih h
    ·cases h
  exact this _ hm
theorem Y8 {s:Nat} {own:AG} (hs:D8 s=true) : ∀ {b9:List Nat},PD b9=true->own.l9 b9 s=own s
 | [],_=>rfl
 | b::r,h=>by
  simp only[PD]at h;cases hb:D8 b<;>simp only[hb,cond_true,cond_false]at h
  ·have k8:s≠b:=λ e=>by rw[e,hb]at hs;cases hs
   show (if s=b then _ else own.l9 r s)=own s;rw[if_neg k8];exact Y8 hs h
  ·cases h
theorem qM {agg:Bool} {n:Nat} {x:AM} (hr:RX σ tm M st) (h:XE L tm M b9 K (.ld agg n x)):BD L tm b9 K (.ld agg n x) st:=by
 simp only[XE]at h;split at h
 ·rename_i key t i j e
  split at h
  ·rename_i s c hm
   have hs:=hr.sat.site _ _ _ hm;split at h
   ·cases hb:N3 s b9<;>simp only[hb,cond_true,cond_false]at h
    have q9:=hr.sat.c9 _ _ _ (DS hm);rw[hs]at q9;split at h
    ·rename_i cs
     cases hi:Nat.beq i 0<;>simp only[hi,cond_true,cond_false]at h;obtain rfl:=BB.1 hi;split at h
     ·rename_i ds hp
      rw[F7]at h;obtain ⟨v,h1,h2⟩:=ND σ h;exact BD.val hr v (λ C=>by
       simp only[c8,hr.ev e (by intro e;cases e),DN,AG.js,AG.get,hs];rw[QQ hb,q9];simp only[A3.c9,List.getElem?_cons_zero,SH hp,h1,Option.map_some]) h2
     ·exact h.elim
    ·rename_i z es
     obtain ⟨cs,ds,g1,g2,h⟩:=h;rw[F7]at h;cases hd:DQ ds<;>simp only[hd,cond_true,cond_false]at h;obtain ⟨v,h1,h2⟩:=ND σ h;rw[HS hd]at h1;exact BD.val hr v (λ C=>by
      simp only[c8,hr.ev e (by intro e;cases e),DN,AG.js,AG.get,hs];rw[QQ hb,q9];simp only[A3.c9,g1,g2,h1,Option.map_some]) h2
    ·rename_i z es
     split at h
     ·rename_i cs g1
      split at h
      ·rename_i ds hp
       rw[F7]at h;obtain ⟨v,h1,h2⟩:=ND σ h;exact BD.val hr v (λ C=>by
        simp only[c8,hr.ev e (by intro e;cases e),DN,AG.js,AG.get,hs];rw[QQ hb,q9];simp only[A3.c9,List.getElem?_map,g1,Option.map_some,SH hp,h1]) h2
      ·exact h.elim
     ·exact h.elim
    ·rename_i rows
     cases hj:Nat.beq j 0<;>simp only[hj,cond_true,cond_false]at h;cases hn:Nat.beq n 1<;>simp only[hn,cond_true,cond_false]at h;obtain rfl:=BB.1 hj;obtain rfl:=BB.1 hn;obtain ⟨r,g1,h⟩:=h;have fin : ∀ c:AV,(BR σ key 0 rows)[i]? = some [A5 σ c]->jv agg [c] (λ v=>K v M)->BD L tm b9 K (.ld agg 1 x) st:=by
      intro c hc h;obtain ⟨v,h1,h2⟩:=ND σ h;have hp:part [A5 σ c] 0 1=some [A5 σ c]:=by simp [part]
      exact BD.val hr v (λ C=>by
       simp only[c8,hr.ev e (by intro e;cases e),DN,AG.js,AG.get,hs];rw[QQ hb,q9];simp only[A3.c9,hc,hp];simp only[List.map_cons,List.map_nil]at h1;simp only[h1,Option.map_some]) h2
     split at h
     ·rename_i z es
      exact fin _ (by rw[EV,g1];simp [A5]) h
     ·exact fin _ (by rw[EV,g1];simp [A5]) h
    ·exact h.elim
    ·exact h.elim
   ·rename_i i'
    split at h
    ·rename_i rows
     obtain ⟨z,es,g0,cs,ds,g1,g2,h⟩:=h;rw[F7]at h;cases hd:DQ ds<;>simp only[hd,cond_true,cond_false]at h;obtain ⟨v,h1,h2⟩:=ND σ h;rw[HS hd]at h1;have q9:=hr.sat.c9 key (i'+1) (.rw z es) (by simp [c6,hm,g0]);exact BD.val hr v (λ C=>by
      simp only[c8,hr.ev e (by intro e;cases e),DN,AG.js,AG.get,AG.l9];rw[q9];simp only[A3.c9,g1,g2,h1,Option.map_some]) h2
    ·rename_i rows b r
     cases hb:PD (b::r)<;>simp only[hb,cond_true,cond_false]at h;obtain ⟨z,es,g0,cs,ds,g1,g2,h⟩:=h;rw[F7]at h;cases hd:DQ ds<;>simp only[hd,cond_true,cond_false]at h;obtain ⟨v,h1,h2⟩:=ND σ h;rw[HS hd]at h1;have g':c6 M key (i'+1)=some (.rw z es):=by simp [c6,hm,g0]
     have q9:=hr.sat.c9 key (i'+1) (.rw z es) g';have bf:=hr.sat.low key (i'+1) _ g' rfl;exact BD.val hr v (λ C=>by
      simp only[c8,hr.ev e (by intro e;cases e),DN,AG.js,AG.get];rw[Y8 bf hb,q9];simp only[A3.c9,g1,g2,h1,Option.map_some]) h2
    ·exact h.elim
  ·exact h.elim
 ·rename_i cs e
  split at h
  ·rename_i ds hp
   rw[F7]at h;cases hd:DQ ds<;>simp only[hd,cond_true,cond_false]at h;obtain ⟨v,h1,h2⟩:=ND σ h;rw[HS hd]at h1;exact BD.val hr v (λ C=>by simp only[c8,hr.ev e (by intro e;cases e),HN,hp,h1,Option.map_some]) h2
  ·exact h.elim
 ·exact h.elim
theorem bS {n:Nat} {x v:AM} (hr:RX σ tm M st) (h:XE L tm M b9 K (.st n x v)):BD L tm b9 K (.st n x v) st:=by
 simp only[XE,aF]at h;split at h
 ·rename_i key t i j e
  obtain ⟨h0,vs,hc,h5⟩:=UK h;clear h;cases hn:Nat.beq vs.length n<;>simp only[hn,cond_true,cond_false]at h5;have km:=BB.1 hn;split at h5
  ·rename_i s c hm
   have hs:=hr.sat.site _ _ _ hm;split at h5
   ·have q9:=hr.sat.c9 _ _ _ (DS hm)
    rw[hs]at q9;split at h5
    ·rename_i cs
     cases hi:Nat.beq i 0<;>simp only[hi,cond_true,cond_false]at h5;obtain rfl:=BB.1 hi;have hl:Nat.ble (j+vs.length) cs.length=true:=by
      cases hl:Nat.ble (j+vs.length) cs.length
      ·rw[hl]at h5;exact h5.elim
      ·rfl
     rw[hl]at h5;simp only[cond_true,F7]at h5;refine ⟨.y9 (.j4 []) (st.own.put s ((st.own s).m7 (σ key 0).2 (some (A3.c9 σ key (.bx (splice cs j vs)))))),σ,_,_,λ C => ?_,h5,rfl,hr.Bv hm trivial _ trivial (λ h=>nomatch h)⟩;simp only[c8,hr.ev e (by intro e;cases e),DN,hr.ev rfl h0,MA hc,List.length_map];rw[if_pos km];simp only[AG.fw,AG.get,hs,q9,A3.c9,List.getElem?_cons_zero,List.length_map];rw[if_pos (Nat.le_of_ble_eq_true hl)];simp only[Option.map_some,List.set_cons_zero,mD];have:(splice cs j vs).length=cs.length:=by
      have:=Nat.le_of_ble_eq_true hl
      simp only[splice,List.length_append,List.length_take,List.length_drop];omega
     rw[this]
    ·rename_i z es
     cases hd:DQ vs<;>simp only[hd,cond_true,cond_false]at h5;obtain ⟨cs,g1,g2,h5⟩:=h5;refine ⟨.y9 (.j4 []) (st.own.put s ((st.own s).m7 (σ key 0).2 (some (A3.c9 σ key (.rw z (es.set i (splice cs j vs))))))),σ,_,_,λ C => ?_,h5,rfl,hr.Bv hm trivial _ trivial (λ_=>rfl)⟩;simp only[c8,hr.ev e (by intro e;cases e),DN,hr.ev rfl h0,MA hc,HS hd];rw[if_pos km];simp only[AG.fw,AG.get,hs,q9,A3.c9,g1];rw[if_pos g2];rfl
    ·exact h5.elim
    ·rename_i rows
     split at h5
     ·rename_i q8 z m
      cases fb:Nat.beq key q8<;>simp only[fb,cond_true,cond_false]at h5;cases ag:MC key tm<;>simp only[ag,cond_true,cond_false]at h5;cases nn:IQ key M<;>simp only[nn,cond_true,cond_false]at h5;cases hj:Nat.beq j 0<;>simp only[hj,cond_true,cond_false]at h5;obtain rfl:=BB.1 hj;split at h5
      ·rename_i s2 z' es di
       cases hz:Nat.beq z z'<;>simp only[hz,cond_true,cond_false]at h5;obtain rfl:=BB.1 hz;rw[IV]at h5;obtain ⟨rfl,hi,h5⟩:=h5;have hlen:(BR σ key 0 rows)[i]? = some ((BR σ key 0 rows)[i]'(by rw[EL];exact hi)):=zE _;have cj:((BR σ key 0 rows)[i]'(by rw[EL];exact hi)).length=1:=by
        have:=EV (σ:=σ) (k:=key) rows 0 i
        rw[hlen,zE hi]at this;simp only[Option.map_some,Option.some.injEq]at this;rw[this];split<;>rfl
       refine ⟨.y9 (.j4 []) (st.own.put s ((st.own s).m7 (σ key 0).2 (some ⟨1,(BR σ key 0 rows).set i [.row (σ q8 0).1 (σ q8 0).2 z 0 es.length]⟩))),_,_,_,λ C => ?_,h5,rfl,hr.ve hm (Or.inl rfl) di (EY.1 fb) ag nn hi⟩;simp only[c8,hr.ev e (by intro e;cases e),DN,hr.ev rfl h0,MA hc,List.length_map];rw[if_pos km];simp only[AG.fw,AG.get,hs,q9,A3.c9,hlen,List.map_cons,List.map_nil,List.length_cons,List.length_nil,A5];rw[if_pos (by omega)];simp only[Option.map_some];have zw:splice ((BR σ key 0 rows)[i]'(by rw[EL];exact hi)) 0 [.row (σ q8 0).1 (σ q8 0).2 z 0 es.length]=[.row (σ q8 0).1 (σ q8 0).2 z 0 es.length]:=by
        simp only[splice,List.take_zero,List.nil_append,List.length_cons,List.length_nil,Nat.zero_add];rw[List.drop_of_length_le (by omega)];rfl
       rw[zw]
      ·exact h5.elim
     ·rename_i q8 t2 z m
      cases fb:Nat.beq key q8<;>simp only[fb,cond_true,cond_false]at h5;cases hj:Nat.beq j 0<;>simp only[hj,cond_true,cond_false]at h5;obtain rfl:=BB.1 hj;obtain rfl:=BB.1 fb;obtain ⟨z',es,g0,h5⟩:=h5;cases hz:Nat.beq z z'<;>simp only[hz,cond_true,cond_false]at h5;obtain rfl:=BB.1 hz;obtain ⟨⟨rfl,hi⟩,h5⟩:=h5;have o6:A3.c9 σ key (.vw ((List.range rows.length).set i t2) rows)=⟨1,(BR σ key 0 rows).set i [.row (σ key (t2+1)).1 (σ key (t2+1)).2 z 0 es.length]⟩:=by
       simp only[A3.c9];congr 1;apply List.ext_getElem?;intro p;rw[List.getElem?_map];by_cases hp:i=p
       ·subst hp
        rw[List.getElem?_set_self (by rw[List.length_range];exact hi),List.getElem?_set_self (by rw[EL];exact hi),Option.map_some,EV,g0];simp
       ·rw[List.getElem?_set_ne hp,List.getElem?_set_ne hp,EV]
        by_cases wi:p<rows.length
        ·rw[List.getElem?_range wi,Option.map_some,EV,zE wi,Option.map_some,Option.getD_some]
        ·rw[List.getElem?_eq_none (by rw[List.length_range];omega),List.getElem?_eq_none (by omega)];rfl
      have hv:=hr.view (w:=(List.range rows.length).set i t2) hm (Or.inl rfl);have hlen:(BR σ key 0 rows)[i]? = some ((BR σ key 0 rows)[i]'(by rw[EL];exact hi)):=zE _;have cj:((BR σ key 0 rows)[i]'(by rw[EL];exact hi)).length=1:=by
       have:=EV (σ:=σ) (k:=key) rows 0 i
       rw[hlen,zE hi]at this;simp only[Option.map_some,Option.some.injEq]at this;rw[this];split<;>rfl
      refine ⟨.y9 (.j4 []) (st.own.put s ((st.own s).m7 (σ key 0).2 (some (A3.c9 σ key (.vw ((List.range rows.length).set i t2) rows))))),_,_,_,λ C => ?_,h5,rfl,hv⟩;rw[o6];simp only[c8,hr.ev e (by intro e;cases e),DN,hr.ev rfl h0,MA hc,List.length_map];rw[if_pos km];simp only[AG.fw,AG.get,hs,q9,A3.c9,hlen,List.map_cons,List.map_nil,List.length_cons,List.length_nil,A5];rw[if_pos (by omega)];simp only[Option.map_some];have zw:splice ((BR σ key 0 rows)[i]'(by rw[EL];exact hi)) 0 [.row (σ key (t2+1)).1 (σ key (t2+1)).2 z 0 es.length]=[.row (σ key (t2+1)).1 (σ key (t2+1)).2 z 0 es.length]:=by
       simp only[splice,List.take_zero,List.nil_append,List.length_cons,List.length_nil,Nat.zero_add];rw[List.drop_of_length_le (by omega)];rfl
      rw[zw]
     ·exact h5.elim
    ·rename_i i0 v0 rows
     split at h5
     ·rename_i q8 z m
      cases fb:Nat.beq key q8<;>simp only[fb,cond_true,cond_false]at h5;cases ag:MC key tm<;>simp only[ag,cond_true,cond_false]at h5;cases nn:IQ key M<;>simp only[nn,cond_true,cond_false]at h5;cases hj:Nat.beq j 0<;>simp only[hj,cond_true,cond_false]at h5;obtain rfl:=BB.1 hj;split at h5
      ·rename_i s2 z' es di
       cases hz:Nat.beq z z'<;>simp only[hz,cond_true,cond_false]at h5;obtain rfl:=BB.1 hz;rw[IV]at h5;obtain ⟨⟨rfl,rfl⟩,hi,h5⟩:=h5;refine ⟨.y9 (.j4 []) (st.own.put s ((st.own s).m7 (σ key 0).2 (some ⟨1,(BR σ key 0 rows).set i [.row (σ q8 0).1 (σ q8 0).2 z 0 es.length]⟩))),_,_,_,λ C => ?_,h5,rfl,hr.ve hm (Or.inr ⟨v0,rfl⟩) di (EY.1 fb) ag nn hi⟩;simp only[c8,hr.ev e (by intro e;cases e),DN,hr.ev rfl h0,MA hc,List.length_map];rw[if_pos km];simp only[AG.fw,AG.get,hs,q9,A3.c9,List.getElem?_set_self (show i<(BR σ key 0 rows).length by rw[EL];exact hi),List.map_cons,List.map_nil,List.length_cons,List.length_nil,A5];rw[if_pos (by omega)];simp only[Option.map_some,List.set_set];rfl
      ·exact h5.elim
     ·exact h5.elim
    ·rename_i w rows
     split at h5
     ·rename_i q8 t2 z m
      cases fb:Nat.beq key q8<;>simp only[fb,cond_true,cond_false]at h5;cases hj:Nat.beq j 0<;>simp only[hj,cond_true,cond_false]at h5;obtain rfl:=BB.1 hj;obtain rfl:=BB.1 fb;obtain ⟨z',es,g0,h5⟩:=h5;cases hz:Nat.beq z z'<;>simp only[hz,cond_true,cond_false]at h5;obtain rfl:=BB.1 hz;obtain ⟨⟨rfl,hi,Sd⟩,h5⟩:=h5;have o6:A3.c9 σ key (.vw (w.set i t2) rows)=⟨1,(w.map λ t=>((BR σ key 0 rows)[t]?).getD []).set i [.row (σ key (t2+1)).1 (σ key (t2+1)).2 z 0 es.length]⟩:=by
       simp only[A3.c9];congr 1;apply List.ext_getElem?;intro p;rw[List.getElem?_map];by_cases hp:i=p
       ·subst hp
        rw[List.getElem?_set_self hi,List.getElem?_set_self (by rw[List.length_map];exact hi),Option.map_some,EV,g0];simp
       ·rw[List.getElem?_set_ne hp,List.getElem?_set_ne hp,List.getElem?_map]
      have hv:=hr.view (w:=w.set i t2) hm (Or.inr ⟨w,rfl⟩);have hlen:(w.map λ t=>((BR σ key 0 rows)[t]?).getD [])[i]? = some ((w.map λ t=>((BR σ key 0 rows)[t]?).getD [])[i]'(by rw[List.length_map];exact hi)):=zE _;have cj:((w.map λ t=>((BR σ key 0 rows)[t]?).getD [])[i]'(by rw[List.length_map];exact hi)).length=1:=by
       rw[List.getElem_map];have l6:=Sd w[i] (List.getElem_mem hi);rw[EV,zE l6];simp only[Option.map_some,Option.getD_some];split<;>rfl
      refine ⟨.y9 (.j4 []) (st.own.put s ((st.own s).m7 (σ key 0).2 (some (A3.c9 σ key (.vw (w.set i t2) rows))))),_,_,_,λ C => ?_,h5,rfl,hv⟩;rw[o6];simp only[c8,hr.ev e (by intro e;cases e),DN,hr.ev rfl h0,MA hc,List.length_map];rw[if_pos km];simp only[AG.fw,AG.get,hs,q9,A3.c9,hlen,List.map_cons,List.map_nil,List.length_cons,List.length_nil,A5];rw[if_pos (by omega)];simp only[Option.map_some];have zw:splice ((w.map λ t=>((BR σ key 0 rows)[t]?).getD [])[i]'(by rw[List.length_map];exact hi)) 0 [.row (σ key (t2+1)).1 (σ key (t2+1)).2 z 0 es.length]=[.row (σ key (t2+1)).1 (σ key (t2+1)).2 z 0 es.length]:=by
       simp only[splice,List.take_zero,List.nil_append,List.length_cons,List.length_nil,Nat.zero_add];rw[List.drop_of_length_le (by omega)];rfl
      rw[zw]
     ·exact h5.elim
   ·rename_i i'
    split at h5
    ·rename_i rows
     cases hd:DQ vs<;>simp only[hd,cond_true,cond_false]at h5;obtain ⟨z,es,g0,cs,g1,g2,g3,h5⟩:=h5;have q9:=hr.sat.c9 key (i'+1) (.rw z es) (by simp [c6,hm,g0]);refine ⟨.y9 (.j4 []) (st.own.put (σ key (i'+1)).1 ((st.own (σ key (i'+1)).1).m7 (σ key (i'+1)).2 (some ⟨z,es.set i (splice cs j vs)⟩))),σ,_,_,λ C => ?_,h5,rfl,hr.Fh hm g0 g3⟩;simp only[c8,hr.ev e (by intro e;cases e),DN,hr.ev rfl h0,MA hc,HS hd];rw[if_pos km];simp only[AG.fw,AG.get,q9,A3.c9,g1];rw[if_pos g2];rfl
    ·exact h5.elim
  ·exact h5.elim
 ·exact h.elim
theorem qO {s z bytes:Nat} {zero:List AV} {a c:AM} (hr:RX σ tm M st) (h:XE L tm M b9 K (.mk s z bytes zero a c)):BD L tm b9 K (.mk s z bytes zero a c) st:=by
 simp only[XE]at h;split at h
 ·rename_i k1 p k2 q e1 e2
  cases hz:Nat.beq zero.length z<;>simp only[hz,cond_true,cond_false]at h;cases hd:DQ zero<;>simp only[hd,cond_true,cond_false]at h;split at h
  ·cases bf:D8 s<;>simp only[bf,cond_true,cond_false]at h
   obtain ⟨⟨g1,g2,g3,g4⟩,h⟩:=h;obtain ⟨k,h1,h2,h3⟩:=FQ h;have ch:A3.flat (.mx (List.replicate p.toNat none)):=by
    intro i x hx;have:=List.getElem?_replicate (n:=p.toNat) (a:=(none:Option (Nat × List (List AV)))) (i:=i)
    rw[this]at hx;split at hx<;>cases hx
   have ff:z=1:=(BB.1 hz).symm;have rm:A3.c9 σ k (.mx (List.replicate p.toNat none))=⟨z,List.replicate p.toNat [.nil]⟩:=by
    simp only[A3.c9,ff];congr 1;have : ∀ (n i:Nat),BR σ k i (List.replicate n none)=List.replicate n [AV.nil]:=by
     intro n;induction n with
     | zero=>intro i;rfl
     | succ n ih=>intro i;rw[List.replicate_succ,List.replicate_succ,BR,ih]
    exact this _ _
   refine ⟨.new s (A3.c9 σ k (.mx (List.replicate p.toNat none))) (λ t => .row s t z 0 p.toNat),_,_,_,λ C => ?_,h3,?_,hr.aj h1 h2 (.mx _) ch rfl (λ_=>bf)⟩
   ·simp only[c8,hr.ev e1 (by intro e;cases e),hr.ev e2 (by intro e;cases e),FX,rm]
    rw[if_pos ⟨g1,g2,g3,g4,BB.1 hz⟩]
   ·simp only[BT.res,CN,BN]
  ·cases bf:D8 s<;>simp only[bf,cond_true,cond_false]at h
   obtain ⟨⟨g1,g2,g3,g4⟩,h⟩:=h;obtain ⟨k,h1,h2,h3⟩:=FQ h;refine ⟨.new s ⟨z,List.replicate p.toNat zero⟩ (λ t => .row s t z 0 p.toNat),_,_,_,λ C => ?_,h3,?_,hr.aj h1 h2 (.rw z _) trivial rfl (λ_=>bf)⟩
   ·simp only[c8,hr.ev e1 (by intro e;cases e),hr.ev e2 (by intro e;cases e),FX]
    rw[if_pos ⟨g1,g2,g3,g4,BB.1 hz⟩]
   ·simp only[BT.res,CN,BN]
 ·exact h.elim
theorem gQ {v:AV} {K:AV->Prop} (h:f2 v K):v ≠ .any/\A8 σ v=BM σ v/\K v:=by
 cases v<;>simp only[f2,F7]at h<;>first|exact h.elim|exact ⟨(by intro e;cases e),rfl,h⟩
theorem iY : ∀ (vs:List AV) (i:Nat),qy vs i ≠ .any->vs[i]? = some (qy vs i)
 | [],_,h=>absurd rfl h
 | _::_,0,_=>rfl
 | _::r,i+1,h=>iY r i h
theorem qF {x:AM} {i:Nat} (hr:RX σ tm M st) (h:XE L tm M b9 K (.ext x i)):BD L tm b9 K (.ext x i) st:=by
 simp only[XE]at h;split at h
 ·rename_i vs e
  obtain ⟨h1,h2,h3⟩:=gQ (σ:=σ) h;refine BD.val hr _ (λ C => ?_) h3;simp only[c8,hr.ev e (by intro e;cases e),G4,List.getElem?_map,iY vs i h1,Option.map_some,h2]
 ·exact h.elim
theorem qN {x:AM} (hr:RX σ tm M st) (h:XE L tm M b9 K (.len x)):BD L tm b9 K (.len x) st:=by
 simp only[XE]at h;split at h
 ·rename_i q es e
  exact BD.val hr _ (λ C=>by simp only[c8,hr.ev e (by intro e;cases e),FY,lenOf];rfl) h
 ·rename_i e
  exact BD.val hr _ (λ C=>by simp only[c8,hr.ev e (by intro e;cases e),EI,lenOf];rfl) h
 ·rename_i e
  exact BD.val hr _ (λ C=>by simp only[c8,hr.ev e (by intro e;cases e),CN,lenOf];rfl) h
 ·exact h.elim
theorem jP {mx:Bool} {k:IntKind} {K:AV->Prop} : ∀ {l:List AV} {a:Int},PA mx k K a l -> ∃ n,IY mx (.int k a) l=some (.int k n)/\K (.int k n)/\(∀ v∈l,v ≠ .any/\A8 σ v=v)
 | [],a,h=>⟨a,rfl,h,λ v hv=>by cases hv⟩
 | v::r,a,h=>by
  cases v with
  | int k' b =>
   have h:(bif mx then AF (a<b) (b<=a) (PA mx k K b r) (PA mx k K a r) else AF (b<a) (a<=b) (PA mx k K b r) (PA mx k K a r)):=h;have fin : ∀ c:Int,NC mx (.int k a) (.int k' b)=some (.int k c)->PA mx k K c r -> ∃ n,IY mx (.int k a) (.int k' b::r)=some (.int k n)/\K (.int k n)/\(∀ v∈AV.int k' b::r,v ≠ .any/\A8 σ v=v):=by
    intro c hc hx;obtain ⟨n,h1,h2,h3⟩:=jP hx;refine ⟨n,by simp only[IY,hc,h1],h2,λ v hv => ?_⟩;rcases List.mem_cons.1 hv with rfl|hv
    ·exact ⟨(by intro e;cases e),rfl⟩
    ·exact h3 v hv
   cases mx
   ·simp only[cond_false]at h
    by_cases hc:b<a
    ·exact fin b (by simp [NC,hc]) (h.1 hc)
    ·exact fin a (by simp [NC,hc]) (h.2 (by omega))
   ·simp only[cond_true]at h
    by_cases hc:a<b
    ·exact fin b (by simp [NC,hc]) (h.1 hc)
    ·exact fin a (by simp [NC,hc]) (h.2 (by omega))
  | _=>exact (h:False).elim
theorem qQ {mx:Bool} {xs:List AM} (hr:RX σ tm M st) (h:XE L tm M b9 K (.mm mx xs)):BD L tm b9 K (.mm mx xs) st:=by
 simp only[XE]at h;split at h
 ·rename_i k a r e
  obtain ⟨n,h1,h2,h3⟩:=jP (σ:=σ) h;refine BD.val hr (.int k n) (λ C => ?_) h2;have hx : ∀ v∈NY tm xs,v ≠ .any:=by
   rw[e];intro v hv;rcases List.mem_cons.1 hv with rfl|hv
   ·intro e;cases e
   ·exact (h3 v hv).1
  have hm:(NY tm xs).map (A8 σ) = .int k a::r:=by
   rw[e,List.map_cons];congr 1;conv=>rhs;rw[<-List.map_id r]
   exact List.map_congr_left λ v hv=>(h3 v hv).2
  simp only[c8];rw[show xs.map st.ev = .int k a::r from (vZ hr hx).trans hm];simp only[h1,Option.map_some,FX]
 ·exact h.elim
theorem Lx (hr:RX σ tm M st) {k t:Nat} {K:Nat->List (List AV)->Prop} (h:ZS M k t K) : ∃ z es,(st.own (σ k t).1).c9 (σ k t).2=some ⟨z,es⟩/\K z es:=by
 unfold ZS at h;split at h
 ·rename_i s c hm
  split at h
  ·split at h
   ·exact ⟨_,_,hr.sat.c9 _ _ _ (DS hm),h⟩
   ·exact h.elim
  ·rename_i i
   split at h
   ·rename_i rows
    obtain ⟨z,es,g,h⟩:=h;exact ⟨z,es,hr.sat.c9 k (i+1) (.rw z es) (by simp [c6,hm,g]),h⟩
   ·exact h.elim
 ·exact h.elim
theorem Nq {own l8:AG} {s t i j:Nat} {vs:List AV} (h:own.fw s t i j vs=some l8):own.put s (l8 s)=l8:=by
 unfold AG.fw at h;cases hg:own.get s t with
 | none=>simp [hg]at h
 | some b =>
  simp only[hg]at h;cases he:b.es[i]? with
  | none=>simp [he]at h
  | some cs =>
   simp only[he]at h;split at h
   ·obtain rfl:=Option.some.inj h
    rw[AG.g9]
   ·cases h
theorem qW {s n:Nat} {x v:AM} (hr:RX σ tm M st) (h:XE L tm M b9 K (.jc s n x v)):BD L tm b9 K (.jc s n x v) st:=by
 simp only[XE]at h;split at h
 ·rename_i key i j e1
  split at h
  ·rename_i s' c hm
   cases hb:Nat.beq s' s<;>simp only[hb,cond_true,cond_false]at h;obtain rfl:=BB.1 hb;have br:=hr.sat.site _ _ _ hm;obtain ⟨E,σ',v',M',h1,h2,h3,h4⟩:=bS (b9:=b9) (L:=L) hr (show XE L tm M b9 K (.st n x v) from h);have u5:=hr.ev e1 (by intro e;cases e);rw[DN,br]at u5;have key : ∀ vs,cellsOf (st.ev v)=some vs->vs.length=n -> ∃ o',st.own.fw s' (σ key 0).2 i j vs=some o'/\E = .y9 (.j4 []) o':=λ vs eg hn=>by
    have:=h1 0
    simp only[c8,u5,eg]at this;rw[if_pos hn,Option.map_eq_some_iff]at this;obtain ⟨o',a1,a2⟩:=this;exact ⟨o',a1,a2.symm⟩
   cases eg:cellsOf (st.ev v) with
   | none=>have:=h1 0;simp [c8,u5,eg]at this
   | some vs =>
    by_cases hn:vs.length=n
    ·obtain ⟨o',a1,rfl⟩:=key vs eg hn
     refine ⟨.m7 s' (o' s'),σ',v',M',λ C => ?_,h2,h3,?_⟩
     ·simp only[c8,u5,eg]
      rw[if_pos ⟨trivial,hn⟩,a1];rfl
     ·have e2:(BT.res st.own (.m7 s' (o' s'))).2=o':=Nq a1
      rw[e2];exact h4
    ·have:=h1 0
     simp only[c8,u5,eg]at this;rw[if_neg hn]at this;cases this
  ·exact h.elim
 ·exact h.elim
theorem qL {ne:Bool} {x:AM} (hr:RX σ tm M st) (h:XE L tm M b9 K (.mc ne x)):BD L tm b9 K (.mc ne x) st:=by
 simp only[XE]at h;split at h
 ·rename_i e1
  rw[M8]at h;exact BD.val hr _ (λ C=>by simp only[c8,hr.ev e1 (by intro e;cases e),EI,FW]) h
 ·rename_i b e1
  rw[M8]at h;exact BD.val hr _ (λ C=>by simp only[c8,hr.ev e1 (by intro e;cases e),Ly,FW]) h
 ·rename_i q es e1
  obtain ⟨h0,h⟩:=h;rw[M8]at h;cases es with
  | nil=>exact absurd rfl h0
  | cons e es=>exact BD.val hr _ (λ C=>by simp only[c8,hr.ev e1 (by intro e;cases e),FY,FW]) h
 ·rename_i s t z o n e1
  obtain ⟨h0,h⟩:=h;rw[M8]at h;cases n with
  | zero=>exact absurd h0 (by omega)
  | succ n=>exact BD.val hr _ (λ C=>by simp only[c8,hr.ev e1 (by intro e;cases e),CN,FW]) h
 ·exact h.elim
theorem qS {x:AM} (hr:RX σ tm M st) (h:XE L tm M b9 K (.mw x)):BD L tm b9 K (.mw x) st:=by
 simp only[XE]at h;split at h
 ·rename_i key t i j e
  exact BD.val hr _ (λ C=>by simp only[c8,hr.ev e (by intro e;cases e),DN]) h
 ·exact h.elim
theorem qC {x:AM} (hr:RX σ tm M st) (h:XE L tm M b9 K (.da x)):BD L tm b9 K (.da x) st:=by
 simp only[XE]at h;split at h
 ·rename_i e
  exact BD.val hr _ (λ C=>by simp only[c8,hr.ev e (by intro e;cases e),EI];rfl) h
 ·exact h.elim
theorem pW {s z bytes:Nat} {x y:AM} (hr:RX σ tm M st) (h:XE L tm M b9 K (.je s z bytes x y)):BD L tm b9 K (.je s z bytes x y) st:=by
 simp only[XE]at h;split at h
 ·rename_i k n e1 e2
  cases bf:D8 s<;>simp only[bf,cond_true,cond_false]at h;obtain ⟨⟨g1,g2,g3⟩,h⟩:=h;obtain ⟨k,h1,h2,h3⟩:=FQ h;refine ⟨.new s ⟨z,[]⟩ (λ t => .row s t z 0 n.toNat),_,_,_,λ C => ?_,h3,?_,hr.aj h1 h2 (.rw z []) trivial rfl (λ_=>bf)⟩
  ·simp only[c8,hr.ev e1 (by intro e;cases e),hr.ev e2 (by intro e;cases e),FX,EI]
   rw[if_pos ⟨g1,g2,g3⟩]
  ·simp only[BT.res,CN,BN]
 ·exact h.elim
theorem pR {s z bytes:Nat} {x y:AM} (hr:RX σ tm M st) (h:XE L tm M b9 K (.jd s z bytes x y)):BD L tm b9 K (.jd s z bytes x y) st:=by
 simp only[XE]at h;split at h
 ·rename_i q ys e1 e2
  cases bf:D8 s<;>simp only[bf,cond_true,cond_false]at h;obtain ⟨g1,g2,g3,g4,h⟩:=h;obtain ⟨k,h1,h2,h3⟩:=FQ h;refine ⟨.new s ⟨z,ys⟩ (λ t => .row s t z 0 ys.length),_,_,_,λ C => ?_,h3,?_,hr.aj h1 h2 (.rw z ys) trivial rfl (λ_=>bf)⟩
  ·simp only[c8,hr.ev e1 (by intro e;cases e),hr.ev e2 (by intro e;cases e),EI,FY]
   rw[if_pos ⟨g1,g4,g2,g3⟩]
  ·simp only[BT.res,CN,BN]
 ·exact h.elim
theorem qU {tb:List Nat} {x:AM} (hr:RX σ tm M st) (h:XE L tm M b9 K (.cp tb x)):BD L tm b9 K (.cp tb x) st:=by
 simp only[XE]at h;split at h
 ·rename_i k n e1
  obtain ⟨h0,v,h1,h2⟩:=h;exact BD.val hr _ (λ C=>by simp only[c8,hr.ev e1 (by intro e;cases e),FX,h1];rw[if_pos h0]) h2
 ·exact h.elim
theorem yF {v:AV} {K:AV->Prop} (h:fF v K):v ≠ .any/\F9 (A8 σ v)=some (A5 σ v)/\K v:=by
 cases v<;>first|exact (h:False).elim|exact ⟨(by intro e;cases e),rfl,h⟩
theorem jU (hr:RX σ tm M st) : ∀ {l:List AM} {K:List AV->Prop},Y5 tm l K -> ∃ cs,l.mapM (λ x=>F9 (st.ev x))=some (cs.map (A5 σ))/\K cs
 | [],K,h=>⟨[],rfl,h⟩
 | x::r,K,h=>by
  obtain ⟨h0,hc,h⟩:=yF (σ:=σ) (show fF (ex tm x) λ v=>Y5 tm r λ cs=>K (v::cs) from h);obtain ⟨cs,h1,h2⟩:=jU hr h;refine ⟨ex tm x::cs,?_,h2⟩;rw[List.mapM_cons,h1,hr.ev rfl h0,hc];rfl
theorem qP {p:Bool} {f:Nat} {xs:List AM} (hr:RX σ tm M st) (h:XE L tm M b9 K (.ju p f xs)):BD L tm b9 K (.ju p f xs) st:=by
 simp only[XE]at h;obtain ⟨cs,h1,h2⟩:=jU hr h;exact BD.val hr _ (λ C=>by simp only[c8,h1,Option.map_some,ZT];rfl) h2
theorem eR (hr:RX σ tm M st) {v:AV} {K:List (List AV)->Prop} (h:RQ M v K):v ≠ .any /\ ∃ es,DM st.own (A8 σ v)=some es/\K es:=by
 cases v with
 | sl q es=>exact ⟨(by intro e;cases e),_,rfl,h⟩
 | nil=>exact ⟨(by intro e;cases e),_,rfl,h⟩
 | z8 v =>
  cases v with
  | bool b=>exact ⟨(by intro e;cases e),_,rfl,h⟩
  | _=>exact (h:False).elim
 | row key t z off len =>
  simp only[RQ]at h;obtain ⟨z',es,g,h⟩:=Lx hr h;cases hz:Nat.beq z z'<;>simp only[hz,cond_true,cond_false]at h;obtain rfl:=BB.1 hz;refine ⟨(by intro e;cases e),_,?_,h.2⟩;simp only[CN,DM,AG.get,g];rw[if_pos ⟨h.1,trivial⟩]
 | _=>exact (h:False).elim
theorem Y6 (hr:RX σ tm M st) {o:Option AM} {K:Option Int->Prop} (h:U4 tm o K):(o=none/\K none) \/ ∃ x k n,o=some x/\st.ev x = .int k n/\K (some n):=by
 unfold U4 at h;split at h
 ·exact Or.inl ⟨rfl,h⟩
 ·split at h
  ·rename_i e
   exact Or.inr ⟨_,_,_,rfl,hr.ev e (by intro e;cases e),h⟩
  ·exact h.elim
theorem qV {z:Nat} {x:AM} {lo hi:Option AM} (hr:RX σ tm M st) (h:XE L tm M b9 K (.bz z x lo hi)):BD L tm b9 K (.bz z x lo hi) st:=by
 simp only[XE]at h;have go : ∀ (a b:Option Int),(match ex tm x with
   | .sl l es=>BZ z es a b λ es=>K (.sl l es) M
   | .row key t z' off len=>bif Nat.beq z' z then BH a b len λ a h=>K (.row key t z (off+a) (h-a)) M else False
   | .nil=>(match a,b with
    | none,none=>K .nil M
    | some a,none=>AR (a=0) (K .nil M)
    | none,some h=>AR (h=0) (K .nil M)
    | some a,some h=>AR (a=0/\h=0) (K .nil M))
   | _=>False)->(lo=none/\a=none \/ ∃ y k n,lo=some y/\st.ev y = .int k n/\a=some n)->(hi=none/\b=none \/ ∃ y k n,hi=some y/\st.ev y = .int k n/\b=some n)->BD L tm b9 K (.bz z x lo hi) st:=by
  intro a b h ha hb;split at h
  ·rename_i q es e
   obtain ⟨g1,a',h',g2,g3,g4,h⟩:=h;refine BD.val hr _ (λ C => ?_) h;rcases ha with ⟨rfl,rfl⟩|⟨y,k,n,rfl,e1,rfl⟩<;>rcases hb with ⟨rfl,rfl⟩|⟨y',k',n',rfl,e2,rfl⟩<;>try simp only at g2 g3<;>simp only[c8,hr.ev e (by intro e;cases e),FY, *]<;>simp_all
  ·rename_i key t z' off len e
   cases hz:Nat.beq z' z<;>simp only[hz,cond_true,cond_false]at h;obtain rfl:=BB.1 hz;obtain ⟨a',h',g2,g3,g4,h⟩:=h;refine BD.val hr _ (λ C => ?_) h;rcases ha with ⟨rfl,rfl⟩|⟨y,k,n,rfl,e1,rfl⟩<;>rcases hb with ⟨rfl,rfl⟩|⟨y',k',n',rfl,e2,rfl⟩<;>try simp only at g2 g3<;>simp only[c8,hr.ev e (by intro e;cases e),CN, *]<;>simp_all
  ·rename_i e
   rcases ha with ⟨rfl,rfl⟩|⟨y,k,n,rfl,e1,rfl⟩<;>rcases hb with ⟨rfl,rfl⟩|⟨y',k',n',rfl,e2,rfl⟩<;>simp only at h
   ·exact BD.val hr .nil (λ C=>by simp only[c8,hr.ev e (by intro e;cases e),EI]) h
   ·exact BD.val hr .nil (λ C=>by simp only[c8,hr.ev e (by intro e;cases e),EI,e2,h.1,if_true]) h.2
   ·exact BD.val hr .nil (λ C=>by simp only[c8,hr.ev e (by intro e;cases e),EI,e1,h.1,if_true]) h.2
   ·exact BD.val hr .nil (λ C=>by simp only[c8,hr.ev e (by intro e;cases e),EI,e1,e2,h.1.1,h.1.2,if_true]) h.2
  ·exact h.elim
 rcases Y6 hr h with ⟨h1,h⟩|⟨y,k,n,h1,h2,h⟩
 ·rcases Y6 hr h with ⟨g1,h⟩|⟨y,k,n,g1,g2,h⟩
  ·exact go _ _ h (Or.inl ⟨h1,rfl⟩) (Or.inl ⟨g1,rfl⟩)
  ·exact go _ _ h (Or.inl ⟨h1,rfl⟩) (Or.inr ⟨_,_,_,g1,g2,rfl⟩)
 ·rcases Y6 hr h with ⟨g1,h⟩|⟨y',k',n',g1,g2,h⟩
  ·exact go _ _ h (Or.inr ⟨_,_,_,h1,h2,rfl⟩) (Or.inl ⟨g1,rfl⟩)
  ·exact go _ _ h (Or.inr ⟨_,_,_,h1,h2,rfl⟩) (Or.inr ⟨_,_,_,g1,g2,rfl⟩)
theorem SR {s key:Nat} : ∀ {M:Mem},FV s M=false->FV s (n0 key M)=false
 | [],_=>rfl
 | (i,s0,c0)::r,h=>by
  simp only[FV]at h;cases q0:Nat.beq s i<;>simp only[q0,cond_true,cond_false]at h
  ·cases q1:GA s c0<;>simp only[q1,cond_true,cond_false]at h
   ·simp only[n0]
    cases Nat.beq key i
    ·simp only[cond_false,FV,q0,q1,SR h]
    ·simp only[cond_true,SR h]
   ·cases h
  ·cases h
theorem pT {s z bytes:Nat} {x y:AM} (hr:RX σ tm M st) (h:RQ M (ex tm y) λ ys=>match ex tm x with
   | .row key 0 z' off len=>bif Nat.beq off 0 then bif Nat.beq z' z then (match c7 M key with
    | some (s',.rw w8 es)=>bif Nat.beq w8 z then fM (n0 key M) λ M'=>(BO es len ys z bytes λ es' n=>EX s tm M λ k=>K (.row k 0 z 0 n) ((k,s',.rw z es')::M')) else False
    | _=>False) else False else False
   | .row key (i+1) z' off len=>bif Nat.beq off 0 then bif Nat.beq z' z then (match c7 M key with
    | some (sk,.mx rows)=>fM (n0 key M) λ M'=>B2 rows i λ w8 es=>bif Nat.beq w8 z then (BO es len ys z bytes λ es' n => ∀ s' v,EX s tm M λ k=>K (.row k 0 z 0 n) ((k,s',.rw z es')::(key,sk,.hx i v (rows.set i none))::M')) else False
    | _=>False) else False else False
   | .nil=>bif D8 s then BW ys z bytes λ es n=>EX s tm M λ k=>K (.row k 0 z 0 n) ((k,s,.rw z es)::M) else False
   | _=>False):BD L tm b9 K (.app s z bytes x y) st:=by
 obtain ⟨h0,ys,hy,h⟩:=eR hr h;have sv:DM st.own (st.ev y)=some ys:=by rw[hr.ev rfl h0];exact hy
 split at h
 ·rename_i key z' off len e
  cases ho:Nat.beq off 0<;>simp only[ho,cond_true,cond_false]at h;cases hz:Nat.beq z' z<;>simp only[hz,cond_true,cond_false]at h;obtain rfl:=BB.1 ho;obtain rfl:=BB.1 hz;split at h
  ·rename_i s' w8 es hm
   cases ko:Nat.beq w8 z'<;>simp only[ko,cond_true,cond_false]at h;obtain rfl:=BB.1 ko;rw[IV]at h;obtain ⟨g1,g2,g3,g4,h⟩:=h;obtain ⟨k,h1,h2,h3⟩:=FQ h;have hs:=hr.sat.site _ _ _ hm;have q9:=hr.sat.c9 _ _ _ (DS hm);have hn:=(hr.kill hm).aj (s:=k) (q:=s') (SR h1) h2 (.rw w8 (es.take len++ys)) trivial rfl (λ_=>by have:=hr.sat.low _ _ _ (DS hm) rfl;rwa [hs]at this);have nh:(st.own.put s' ((st.own s').m7 (σ key 0).2 none)).g7 s'=st.own.g7 s':=by simp [AG.g7,AG.g9,BU.m7]
   simp only[AG.g9,AG.dk,nh]at hn;refine ⟨.y9 (.row s' (st.own.g7 s') w8 0 (len+ys.length)) (st.own.put s' (((st.own s').m7 (σ key 0).2 none).new ⟨w8,es.take len++ys⟩)),_,_,_,λ C => ?_,h3,?_,hn⟩
   ·rw[hs]at q9
    simp only[c8,sv,hr.ev e (by intro e;cases e),CN,AG.get,hs,q9,A3.c9];rw[if_pos g2,if_pos ⟨trivial,trivial,g1,g3,g4⟩]
   ·simp only[BT.res,CN,BN]
  ·exact h.elim
 ·rename_i key i z' off len e
  cases ho:Nat.beq off 0<;>simp only[ho,cond_true,cond_false]at h;cases hz:Nat.beq z' z<;>simp only[hz,cond_true,cond_false]at h;obtain rfl:=BB.1 ho;obtain rfl:=BB.1 hz;split at h
  ·rename_i sk rows hm
   rw[IV]at h;obtain ⟨w8,es,g0,h⟩:=h;cases ko:Nat.beq w8 z'<;>simp only[ko,cond_true,cond_false]at h;obtain rfl:=BB.1 ko;obtain ⟨g1,g2,g3,g4,h⟩:=h;have h:=h (σ key (i+1)).1 (.row (σ key (i+1)).1 (σ key (i+1)).2 w8 0 es.length);obtain ⟨k,h1,h2,h3⟩:=FQ h;have q9:=hr.sat.c9 key (i+1) (.rw w8 es) (by simp [c6,hm,g0]);have hn:=hr.Bz (s:=k) (es':=es.take len++ys) hm g0 h1 h2;refine ⟨.y9 (.row (σ key (i+1)).1 (st.own.g7 (σ key (i+1)).1) w8 0 (len+ys.length)) (st.own.put (σ key (i+1)).1 (((st.own (σ key (i+1)).1).m7 (σ key (i+1)).2 none).new ⟨w8,es.take len++ys⟩)),_,_,_,λ C => ?_,h3,?_,hn⟩
   ·simp only[c8,sv,hr.ev e (by intro e;cases e),CN,AG.get,q9,A3.c9]
    rw[if_pos g2,if_pos ⟨trivial,trivial,g1,g3,g4⟩]
   ·simp only[BT.res,CN,BN]
  ·exact h.elim
 ·rename_i e
  cases bf:D8 s<;>simp only[bf,cond_true,cond_false]at h;obtain ⟨g2,g3,g4,h⟩:=h;obtain ⟨k,h1,h2,h3⟩:=FQ h;refine ⟨.y9 (.row s (st.own.g7 s) z 0 ys.length) (st.own.put s ((st.own s).new ⟨z,ys⟩)),_,_,_,λ C => ?_,h3,?_,hr.aj h1 h2 (.rw z ys) trivial rfl (λ_=>bf)⟩
  ·simp only[c8,sv,hr.ev e (by intro e;cases e),EI]
   rw[if_pos g2,if_pos ⟨g3,g4⟩]
  ·simp only[BT.res,CN,BN]
 ·exact h.elim
theorem pV {s z bytes:Nat} {x y:AM} (hr:RX σ tm M st) (h:XE L tm M b9 K (.ax s z bytes x y)):BD L tm b9 K (.ax s z bytes x y) st:=by
 simp only[XE]at h;split at h
 ·rename_i l ys ey
  split at h
  ·rename_i key z' off len e
   cases ho:Nat.beq off 0<;>simp only[ho,cond_true,cond_false]at h;cases hz:Nat.beq z' z<;>simp only[hz,cond_true,cond_false]at h;obtain rfl:=BB.1 ho;obtain rfl:=BB.1 hz;split at h
   ·rename_i s' w8 es hm
    cases ia:Nat.beq s' s<;>simp only[ia,cond_true,cond_false]at h;cases ko:Nat.beq w8 z'<;>simp only[ko,cond_true,cond_false]at h;obtain rfl:=BB.1 ia;obtain rfl:=BB.1 ko;rw[IV]at h;obtain ⟨g1,g2,g3,g4,h⟩:=h;obtain ⟨k,h1,h2,h3⟩:=FQ h;have hs:=hr.sat.site _ _ _ hm;have q9:=hr.sat.c9 _ _ _ (DS hm);have hn:=(hr.kill hm).aj (s:=k) (q:=s') (SR h1) h2 (.rw w8 (es.take len++ys)) trivial rfl (λ_=>by have:=hr.sat.low _ _ _ (DS hm) rfl;rwa [hs]at this);have nh:(st.own.put s' ((st.own s').m7 (σ key 0).2 none)).g7 s'=st.own.g7 s':=by simp [AG.g7,AG.g9,BU.m7]
    simp only[AG.g9,AG.dk,nh]at hn;refine ⟨.na s' (((st.own s').m7 (σ key 0).2 none).new ⟨w8,es.take len++ys⟩) (.row s' (st.own.g7 s') w8 0 (len+ys.length)),_,_,_,λ C => ?_,h3,?_,hn⟩
    ·rw[hs]at q9
     simp only[c8,hr.ev ey (by intro e;cases e),FY,hr.ev e (by intro e;cases e),CN,AG.get,hs,q9,A3.c9];rw[if_pos ⟨trivial,g2,trivial,trivial,g1,g3,g4⟩]
    ·simp only[BT.res,CN,BN]
   ·exact h.elim
  ·exact h.elim
 ·exact h.elim
theorem rD {v:AV} {ky k2 z n:Nat} (h:OP M v=some (ky,some (k2,z,n))):v = .row ky 0 1 0 1 /\ ∃ sy,c7 M ky=some (sy,.bs 1 [[.row k2 0 z 0 n]]):=by
 unfold OP at h;split at h
 ·split at h
  ·rename_i hm
   simp only[Option.some.injEq,Prod.mk.injEq]at h;obtain ⟨rfl,rfl,rfl,rfl⟩:=h;exact ⟨rfl,_,hm⟩
  ·simp at h
  ·cases h
 ·cases h
theorem rC {v:AV} {ky:Nat} (h:OP M v=some (ky,none)):v = .row ky 0 1 0 1 /\ ∃ sy,c7 M ky=some (sy,.rw 1 [[.nil]]):=by
 unfold OP at h;split at h
 ·split at h
  ·simp at h
  ·rename_i hm
   simp only[Option.some.injEq,Prod.mk.injEq,and_true]at h;subst h;exact ⟨rfl,_,hm⟩
  ·cases h
 ·cases h
theorem iX {z:Nat} : ∀ {es:List (List AV)},R7 z es=true -> ∀ e∈es,e.length=z
 | [],_,e,he=>by cases he
 | a::r,h,e,he=>by
  simp only[R7]at h;cases h1:Nat.beq a.length z<;>simp only[h1,cond_true,cond_false]at h
  ·cases h
  ·rcases List.mem_cons.1 he with rfl|he
   ·exact BB.1 h1
   ·exact iX h e he
theorem kT {k:Nat} {b:List (List AV)} (r2:HY k b=false) : ∀ {a:List (List AV)},HY k a=false->HY k (a++b)=false
 | [],_=>r2
 | c::a,h=>by
  simp only[HY,List.cons_append]at h ⊢;cases hq:G2 k c<;>simp only[hq,cond_true,cond_false]at h ⊢
  ·exact kT r2 h
  ·cases h
theorem pU {s z bytes:Nat} {x y:AM} (hr:RX σ tm M st) (h:WG tm M s z bytes x y K):BD L tm b9 K (.app s z bytes x y) st:=by
 unfold WG at h;split at h
 ·rename_i ky zy ny ey
  split at h
  ·rename_i sy z2 fg kj
   cases a1:Nat.beq zy z<;>simp only[a1,cond_true,cond_false]at h;cases a2:Nat.beq z2 z<;>simp only[a2,cond_true,cond_false]at h;cases a3:Nat.beq ny fg.length<;>simp only[a3,cond_true,cond_false]at h;cases a4:R7 z fg<;>simp only[a4,cond_true,cond_false]at h;have b1:=BB.1 a1;have b2:=BB.1 a2;have b3:=BB.1 a3;subst b1 b2 b3;have fe:=hr.sat.site _ _ _ kj;have gd:=hr.sat.c9 _ _ _ (DS kj);rw[fe]at gd
   have sz:DM st.own (st.ev y)=some (fg.map λ cs=>cs.map (A5 σ)):=by
    rw[hr.ev ey (by intro e;cases e)];simp only[CN,DM,AG.get,fe,gd,A3.c9];rw[if_pos (by simp),List.drop_zero,List.take_of_length_le (by simp)]
   have et : ∀ e∈fg.map (λ cs=>cs.map (A5 σ)),e.length=z2:=λ e he=>by
    obtain ⟨c,hc,rfl⟩:=List.mem_map.1 he;rw[List.length_map];exact iX a4 c hc
   split at h
   ·rename_i e
    cases bf:D8 s<;>simp only[bf,cond_true,cond_false]at h;obtain ⟨⟨g3,g4⟩,h⟩:=YU h;obtain ⟨k,h1,h2,h3⟩:=FQ h;have wo:GA k (.bs z2 fg)=false:=(MM h1 _ _ _ kj).2;refine ⟨.y9 (.row s (st.own.g7 s) z2 0 fg.length) (st.own.put s ((st.own s).new ⟨z2,fg.map λ cs=>cs.map (A5 σ)⟩)),_,_,_,λ C => ?_,h3,?_,hr.aj h1 h2 (.bs z2 fg) trivial wo (λ_=>bf)⟩
    ·simp only[c8,sz,hr.ev e (by intro e;cases e),EI]
     rw[if_pos et,if_pos ⟨by simpa [D6] using g3,by simpa using g4⟩,List.length_map]
    ·simp only[BT.res,CN,BN]
   ·rename_i kx zx len e
    cases c1:Nat.beq zx z2<;>simp only[c1,cond_true,cond_false]at h;split at h
    ·rename_i s' z1 ox hm
     cases c2:Nat.beq z1 z2<;>simp only[c2,cond_true,cond_false]at h;cases c3:Nat.beq len ox.length<;>simp only[c3,cond_true,cond_false]at h;have d1:=BB.1 c1;have d2:=BB.1 c2;have d3:=BB.1 c3;subst d1 d3;rw[IV]at h;obtain ⟨⟨g3,g4⟩,h⟩:=YU h;obtain ⟨k,h1,h2,h3⟩:=FQ h;have hs:=hr.sat.site _ _ _ hm;have q9:=hr.sat.c9 _ _ _ (DS hm);have r1:HY k ox=false:=(MM h1 _ _ _ hm).2;have r2:HY k fg=false:=(MM h1 _ _ _ kj).2;have wo:GA k (.bs zx (ox++fg))=false:=by
      exact kT r2 r1
     have hn:=(hr.kill hm).aj (s:=k) (q:=s') (SR h1) h2 (.bs zx (ox++fg)) trivial wo (λ_=>by have:=hr.sat.low _ _ _ (DS hm) rfl;rwa [hs]at this);have nh:(st.own.put s' ((st.own s').m7 (σ kx 0).2 none)).g7 s'=st.own.g7 s':=by simp [AG.g7,AG.g9,BU.m7]
     simp only[AG.g9,AG.dk,nh,A3.c9,List.map_append]at hn;rw[hs]at q9;refine ⟨.y9 (.row s' (st.own.g7 s') zx 0 (ox.length+fg.length)) (st.own.put s' (((st.own s').m7 (σ kx 0).2 none).new ⟨zx,ox.map (λ cs=>cs.map (A5 σ))++fg.map λ cs=>cs.map (A5 σ)⟩)),_,_,_,λ C => ?_,h3,?_,hn⟩
     ·simp only[c8,sz,hr.ev e (by intro e;cases e),CN,AG.get,hs,q9,A3.c9]
      rw[if_pos et,if_pos ⟨d2,trivial,by simp,by simpa [D6] using g3,by simpa using g4⟩,List.take_of_length_le (by simp),List.length_map]
     ·simp only[BT.res,CN,BN,List.length_append]
    ·exact h.elim
   ·exact h.elim
  ·exact h.elim
 ·exact h.elim
theorem pS {s z bytes:Nat} {x y:AM} (hr:RX σ tm M st) (h:XE L tm M b9 K (.app s z bytes x y)):BD L tm b9 K (.app s z bytes x y) st:=by
 simp only[XE]at h;cases hV:Nat.ble 800000 s<;>simp only[hV,cond_true,cond_false]at h;rotate_left
 ·exact pU hr h
 split at h
 ·rename_i ky k2 z2 n2 Cy
  obtain ⟨jq,sy,kj⟩:=rD Cy;have fe:=hr.sat.site _ _ _ kj;have gd:=hr.sat.c9 _ _ _ (DS kj);rw[fe]at gd
  have sz:DM st.own (st.ev y)=some [[.row (σ k2 0).1 (σ k2 0).2 z2 0 n2]]:=by
   rw[hr.ev jq (by intro e;cases e)];simp only[CN,DM,AG.get,fe,gd,A3.c9,A5,List.map_cons,List.map_nil,List.length_cons,List.length_nil];simp
  split at h
  ·rename_i key z' off len e
   cases ho:Nat.beq off 0<;>simp only[ho,cond_true,cond_false]at h;cases hz:Nat.beq z' 1<;>simp only[hz,cond_true,cond_false]at h;cases ff:Nat.beq z 1<;>simp only[ff,cond_true,cond_false]at h;cases gx:Nat.beq key k2<;>simp only[gx,cond_true,cond_false]at h;cases Dm:Nat.beq key ky<;>simp only[Dm,cond_true,cond_false]at h;cases Qr:Nat.beq k2 ky<;>simp only[Qr,cond_true,cond_false]at h;obtain rfl:=BB.1 ho;obtain rfl:=BB.1 hz;obtain rfl:=BB.1 ff;split at h
   ·rename_i s2 z3 es di
    cases Ag:Nat.beq z2 z3<;>simp only[Ag,cond_true,cond_false]at h;obtain rfl:=BB.1 Ag;split at h
    ·rename_i s' rows hm
     rw[IV]at h;obtain ⟨rfl,rfl,g3,g4,h⟩:=h;obtain ⟨k,h1,h2,h3⟩:=FQ h;have hs:=hr.sat.site _ _ _ hm;have q9:=hr.sat.c9 _ _ _ (DS hm);rw[hs]at q9;refine ⟨.y9 (.row s' (st.own.g7 s') 1 0 (rows.length+1)) (st.own.put s' (((st.own s').m7 (σ key 0).2 none).new ⟨1,BR σ key 0 rows++[[.row (σ k2 0).1 (σ k2 0).2 z2 0 es.length]]⟩)),_,_,_,λ C => ?_,h3,?_,hr.Ca (ky:=ky) hm di (EY.1 gx) h1 h2⟩
     ·simp only[c8,sz,hr.ev e (by intro e;cases e),CN,AG.get,hs,q9,A3.c9]
      rw[if_pos (by simp),if_pos ⟨trivial,trivial,by rw[EL];exact Nat.le_refl _,by simpa using g3,by simpa using g4⟩];rw[List.take_of_length_le (by rw[EL];exact Nat.le_refl _)];rfl
     ·simp only[BT.res,CN,BN]
    ·exact h.elim
   ·exact h.elim
  ·rename_i e
   cases bf:D8 s<;>simp only[bf,cond_true,cond_false]at h;cases ff:Nat.beq z 1<;>simp only[ff,cond_true,cond_false]at h;obtain rfl:=BB.1 ff;split at h
   ·rename_i s2 z3 es di
    cases Ag:Nat.beq z2 z3<;>simp only[Ag,cond_true,cond_false]at h;obtain rfl:=BB.1 Ag;rw[IV]at h;obtain ⟨⟨rfl,g3⟩,h⟩:=h;obtain ⟨k,h1,h2,h3⟩:=FQ h;obtain ⟨σ',q1,q2⟩:=hr.Fg (q:=s) di (λ e=>(MM h1 _ _ _ di).1 e.symm) h1 h2 bf;refine ⟨.y9 (.row s (st.own.g7 s) 1 0 1) (st.own.put s ((st.own s).new ⟨1,[[.row (σ k2 0).1 (σ k2 0).2 z2 0 es.length]]⟩)),σ',_,_,λ C => ?_,h3,?_,q2⟩
    ·simp only[c8,sz,hr.ev e (by intro e;cases e),EI]
     rw[if_pos (by simp),if_pos ⟨by simpa [D6] using g3,by simp⟩];rfl
    ·simp only[BT.res,CN,q1]
   ·exact h.elim
  ·exact h.elim
 ·rename_i ky Cy
  obtain ⟨jq,sy,kj⟩:=rC Cy;have fe:=hr.sat.site _ _ _ kj;have gd:=hr.sat.c9 _ _ _ (DS kj);rw[fe]at gd
  have sz:DM st.own (st.ev y)=some [[.nil]]:=by
   rw[hr.ev jq (by intro e;cases e)];simp only[CN,DM,AG.get,fe,gd,A3.c9,List.length_cons,List.length_nil];simp
  split at h
  ·rename_i key z' off len e
   cases ho:Nat.beq off 0<;>simp only[ho,cond_true,cond_false]at h;cases hz:Nat.beq z' 1<;>simp only[hz,cond_true,cond_false]at h;cases ff:Nat.beq z 1<;>simp only[ff,cond_true,cond_false]at h;cases Dm:Nat.beq key ky<;>simp only[Dm,cond_true,cond_false]at h;obtain rfl:=BB.1 ho;obtain rfl:=BB.1 hz;obtain rfl:=BB.1 ff;split at h
   ·rename_i s' rows hm
    rw[IV]at h;obtain ⟨rfl,g3,g4,h⟩:=h;obtain ⟨k,h1,h2,h3⟩:=FQ h;have hs:=hr.sat.site _ _ _ hm;have q9:=hr.sat.c9 _ _ _ (DS hm);rw[hs]at q9;refine ⟨.y9 (.row s' (st.own.g7 s') 1 0 (rows.length+1)) (st.own.put s' (((st.own s').m7 (σ key 0).2 none).new ⟨1,BR σ key 0 rows++[[.nil]]⟩)),_,_,_,λ C => ?_,h3,?_,hr.Cb hm h1 h2⟩
    ·simp only[c8,sz,hr.ev e (by intro e;cases e),CN,AG.get,hs,q9,A3.c9]
     rw[if_pos (by simp),if_pos ⟨trivial,trivial,by rw[EL];exact Nat.le_refl _,by simpa using g3,by simpa using g4⟩];rw[List.take_of_length_le (by rw[EL];exact Nat.le_refl _)];rfl
    ·simp only[BT.res,CN,BN]
   ·exact h.elim
  ·rename_i e
   cases bf:D8 s<;>simp only[bf,cond_true,cond_false]at h;cases ff:Nat.beq z 1<;>simp only[ff,cond_true,cond_false]at h;obtain rfl:=BB.1 ff;obtain ⟨g3,h⟩:=h;obtain ⟨k,h1,h2,h3⟩:=FQ h;have ch:A3.flat (.mx [none]):=by
    intro i x hx;cases i with
    | zero=>simp at hx
    | succ i=>simp at hx
   refine ⟨.y9 (.row s (st.own.g7 s) 1 0 1) (st.own.put s ((st.own s).new ⟨1,[[.nil]]⟩)),_,_,_,λ C => ?_,h3,?_,hr.aj h1 h2 (.mx [none]) ch rfl (λ_=>bf)⟩
   ·simp only[c8,sz,hr.ev e (by intro e;cases e),EI]
    rw[if_pos (by simp),if_pos ⟨by simpa [D6] using g3,by simp⟩];rfl
   ·simp only[BT.res,CN,BN]
  ·exact h.elim
 ·exact pT hr h
theorem qE {z:Nat} {x y:AM} (hr:RX σ tm M st) (h:XE L tm M b9 K (.jg z x y)):BD L tm b9 K (.jg z x y) st:=by
 simp only[XE]at h;obtain ⟨h0,ys,hy,h⟩:=eR hr h;have sv:DM st.own (st.ev y)=some ys:=by rw[hr.ev rfl h0];exact hy
 split at h
 ·rename_i key z' off len e
  cases hz:Nat.beq z' z<;>simp only[hz,cond_true,cond_false]at h;obtain rfl:=BB.1 hz;split at h
  ·rename_i s' w8 es hm
   cases ko:Nat.beq w8 z'<;>simp only[ko,cond_true,cond_false]at h;obtain rfl:=BB.1 ko;obtain ⟨g1,g2,h⟩:=h;have hs:=hr.sat.site _ _ _ hm;have q9:=hr.sat.c9 _ _ _ (DS hm);refine ⟨.y9 (.int .i64 (min ys.length len:Nat)) (st.own.put s' ((st.own s').m7 (σ key 0).2 (some ⟨w8,es.take off++ys.take len++es.drop (off+min ys.length len)⟩))),_,_,_,λ C => ?_,h,rfl,hr.Bv hm trivial (.rw w8 _) trivial (λ_=>rfl)⟩;rw[hs]at q9;simp only[c8,sv,hr.ev e (by intro e;cases e),CN,AG.get,hs,q9,A3.c9];rw[if_pos ⟨trivial,trivial,g1,g2⟩]
  ·exact h.elim
 ·exact h.elim
end
end Go.c4
