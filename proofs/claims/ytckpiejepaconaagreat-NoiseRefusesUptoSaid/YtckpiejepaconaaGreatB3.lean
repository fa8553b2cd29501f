/-
  The walk by computation is sound.
-/
import Derived.Test.YtckpiejepaconaaGreatB2
import Derived.Test.YtckpiejepaconaaGreatB1
set_option linter.unusedSimpArgs false
set_option linter.unusedVariables false
set_option linter.unnecessarySimpa false
open BitVec renaming ofInt->te
open Bool renaming and_eq_true->Sa,or_false->fh
open Function renaming comp_def->Mh,comp->Lh
open Int renaming toNat_natCast->Hc,natAbs_mul->yf,mul_le_mul_of_nonneg_left->Qf,natCast_mul->Kf,mul_assoc->Bf,mul_add->Pg,natAbs_natCast->Jg,mul_nonneg->nh,mul_le_mul->lh
open List renaming map_cons->ta,replicate->Ub,all_cons->Sb,getElem?_eq_none->Hb,mapM_cons->Gb,getElem?_set_self->Eb,drop_of_length_le->Cb,getD_eq_getElem?_getD->zc,length_map->xc,getElem?_set_ne->fc,map_congr_left->ec,length_cons->Wc,getElem?_map->Uc,ext_getElem?->Sc,getElem?_append_right->Oc,getElem?_append_left->Nc,mem_cons->Gc,length_nil->Cc,map_nil->xd,append_assoc->Ud,replicate_succ->Td,getElem?_range->Sd,length_take->Qd,mem_map->Od,map_map->Gd,getElem?_cons_succ->Cd,mem_cons_of_mem->Ad,nil_append->ve,mem_cons_self->ie,map_take->Te,map_drop->Se,not_mem_nil->Oe,getElem?_replicate->Ke,getElem?_cons_zero->Je,range->He,mem_of_mem_take->Be,drop_zero->Ae,any_cons->vf,take_add_one->rf,cons_append->ff,all_eq_true->ef,drop_append_of_le_length->Uf,cons.injEq->Sf,take_zero->Gf,map_set->yg,take_append_drop->gg,set_append_right->cg,mem_of_mem_drop->Ug,length_range->Kg,mapM->Ig,map_append->Hg,range'->Sh,map_id->Rh
open Nat renaming beq->Wa,zero_add->uc,lt_of_lt_of_le->Qc,le_refl->Pc,mul_le_mul_left->Ic,le_of_ble_eq_true->ud,eq_of_beq_eq_true->td,lt_of_mul_lt_mul_left->od,mul_assoc->Kd,pow_add->Hd,beq_refl->Ed,one_le_two_pow->Dd,lt_trichotomy->Bd,pow_le_pow_right->ye,mul_zero->pe,blt->oe,add_zero->je,mul_le_mul->fe,lt_of_le_of_lt->We,ble->Ue,pow_succ->Ge,mul_comm->Ee,mod_add_div->De,min_eq_left->Ce,lt_irrefl->uf,le_trans->lf,mod_eq_of_lt->Vf,mul_add->Tf,two_pow_pos->Lf,gcd->Jf,mod_two_eq_zero_or_one->Ef,lt_of_mul_lt_mul_right->Cf,add_sub_cancel_left->zg,sub_self->vg,lt_or_ge->lg,div_div_eq_div_mul->ig,pow_pos->Sg,add_mul_div_left->Qg,mod_lt->Mg,and_one_is_mod->Lg,div_le_self->yh,div_add_mod->vh,succ_mul->dh,sub->ch,mul_succ->Uh,gcd_comm->Th,mul_pos->Qh,add_mul->Ph
open Option renaming some.injEq->ka,map_some->Wb,some.inj->Fb,getD_some->Ve,map_eq_some_iff->Re,toList_some->Wg
open Prod renaming mk.injEq->oc,ext->Oh
open Rat renaming add_zero->pf,mkRat_mul_right->Og,num_intCast->Gg,den_intCast->Bg,mkRat_self->rh
namespace Go.j4
theorem DY {a b:Nat}:Wa a b=true↔a=b:=⟨td,λ h=>by subst h;simp⟩
theorem JN {a b:Nat}:Wa a b=false↔a≠b:=by
 constructor
 ·exact Nat.ne_of_beq_eq_false
 ·intro h
  cases e:Wa a b
  ·rfl
  ·exact absurd (td e) h
theorem RM (j:Nat) : ∀ tm:Tm,tg tm j=j6 tm j
 | []=>rfl
 | (i,v)::r=>by
  simp only[tg,pC,RM j r];cases e:Wa j i
  ·rw[if_neg (JN.1 e)];rfl
  ·rw[if_pos (DY.1 e)];rfl
theorem ME : ∀ (l:d_) (K:d_->Prop),fL l K=K l
 | [],_=>rfl
 | v::r,K=>by rw[fL,ME r]
theorem jT : ∀ (l:Tm) (K:Tm->Prop),fT l K=K l
 | [],_=>rfl
 | (i,v)::r,K=>by rw[fT,jT r]
theorem ZE : ∀ (l:Mem) (K:Mem->Prop),fM l K=K l
 | [],_=>rfl
 | (k,s,c)::r,K=>by rw[fM,ZE r]
theorem AoT (n:Nat) (K:Nat->Prop):fN n K=K n:=by cases n<;>rfl
theorem wA (m i:Nat):bit m i=m.testBit i:=by
 have h:Nat.land (Nat.shiftRight m i) 1=(m >>> i)%2:=Lg (m >>> i);have ht:m.testBit i=decide ((m >>> i)%2=1):=by
  rw[Nat.testBit,Nat.and_comm,Lg];rcases Ef (m >>> i) with e|e<;>simp [e]
 unfold bit;rw[h,ht];rcases Ef (m >>> i) with e|e<;>rw[e]<;>rfl
theorem Acs (m i j:Nat):bit (Nat.lor m (Nat.shiftLeft 1 i)) j=(bit m j||decide (j=i)):=by
 rw[wA,wA];show (m ||| (1 <<< i)).testBit j=_;rw[Nat.testBit_or,Nat.testBit_shiftLeft];congr 1;by_cases h:j=i
 ·subst h;simp
 ·by_cases h2:j≥i
  ·obtain ⟨d,rfl⟩ : ∃ d,j=i+d+1:=⟨j-i-1,D'⟩
   rw[show i+d+1-i=d+1 by omega,Nat.testBit_succ];simp [h]
  ·simp [h2,h]
theorem Acr : ∀ (ts:a_) (m j:Nat),bit (mask m ts) j=(bit m j||ts.contains j)
 | [],m,j=>by simp [mask]
 | t::ts,m,j=>by
  rw[mask,Acr ts,Acs,List.contains_cons,Bool.or_assoc];congr 2
theorem wB (j:Nat):bit 0 j=false:=by rw[wA];simp
theorem oZ (j:Nat) : ∀ (tm:Tm) (m:Nat),tg (Fk m tm) j=bif bit m j then .any else tg tm j
 | [],m=>by cases bit m j<;>rfl
 | (i,v)::r,m=>by
  simp only[Fk];cases hb:bit m i
  ·simp only[cond_false,tg,oZ j r,Acs]
   cases hj:Wa j i
   ·have:decide (j=i)=false:=by simpa using JN.1 hj
    simp only[cond_false,this,fh]
   ·obtain rfl:=DY.1 hj
    simp only[cond_true,hb,cond_false]
  ·simp only[cond_true,tg,oZ j r]
   cases hj:Wa j i
   ·rfl
   ·obtain rfl:=DY.1 hj
    simp only[hb,cond_true]
theorem sD {v:AV} {K:AV->Prop} (h:fV v K):v ≠ .any/\K v:=by
 cases v<;>simp only[fV,ME]at h<;>first|exact h.elim|exact ⟨O_,h⟩
theorem sC {v:AV} {K:d_->Prop} (h:fC v K):v ≠ .any /\ ∃ cs,cellsOf v=some cs/\K cs:=by
 cases v<;>simp only[fC,fV,ME]at h<;>first|exact h.elim|exact ⟨O_,_,rfl,h⟩
theorem ZC (b:Bool) (K:Bool->Prop):fB b K=K b:=by cases b<;>rfl
theorem Ahk {k:Nat} {tm:Tm} {M:Mem} (h:used k tm M=false):LW k M=false/\N5 k tm=false:=by
 unfold used at h;cases h1:LW k M<;>simp only[h1,cond_true,cond_false]at h
 ·exact ⟨rfl,h⟩
 ·cases h
theorem AfW {tm:Tm} {M:Mem} {K:Nat->Prop} : ∀ {l:a_},tM tm M l K -> ∃ k,LW k M=false/\N5 k tm=false/\K k
 | [],h=>h.elim
 | k::r,h=>by
  simp only[tM]at h;cases h0:used k tm M<;>simp only[h0,cond_true,cond_false]at h
  ·exact ⟨k,(Ahk h0).1,(Ahk h0).2,h⟩
  ·exact AfW h
theorem N9 {s:Nat} {tm:Tm} {M:Mem} {K:Nat->Prop} (h:LM s tm M K) : ∃ k,LW k M=false/\N5 k tm=false/\K k:=AfW h
section
variable {σ:JF}
def FZ (σ:JF) (k:Nat) (f:Nat->Nat × Nat):JF:=λ j t=>if j=k then f t else σ j t
theorem E8 {k j:Nat} (f:Nat->Nat × Nat) (h:j≠k):FZ σ k f j=σ j:=by funext t;simp [FZ,h]
theorem EG (k:Nat) (f:Nat->Nat × Nat):FZ σ k f k=f:=by funext t;simp [FZ]
theorem Abq {k:Nat} {p:Nat->Nat × Nat} {v:AV} (h:WD k v=false):C3 (FZ σ k p) v=C3 σ v:=by
 cases v with
 | row j t z o n=>simp only[WD]at h;simp only[C3,E8 p (JN.1 h)]
 | ptr j t a b=>simp only[WD]at h;simp only[C3,E8 p (JN.1 h)]
 | _=>rfl
theorem kU {k:Nat} {p:Nat->Nat × Nat} : ∀ {cs:d_},QA k cs=false->cs.map (C3 (FZ σ k p))=cs.map (C3 σ)
 | [],_=>rfl
 | c::r,h=>by
  simp only[QA]at h;cases h1:WD k c<;>simp only[h1,cond_true,cond_false]at h
  ·rw[ta,ta,Abq h1,kU h]
  ·cases h
theorem Abo {k:Nat} {p:Nat->Nat × Nat} : ∀ {es:c_},dJ k es=false->(es.map λ cs=>cs.map (C3 (FZ σ k p)))=es.map λ cs=>cs.map (C3 σ)
 | [],_=>rfl
 | c::r,h=>by
  simp only[dJ]at h;cases h1:QA k c<;>simp only[h1,cond_true,cond_false]at h
  ·rw[ta,ta,kU h1,Abo h]
  ·cases h
theorem oW {k:Nat} {p:Nat->Nat × Nat} {v:AV} (h:ZT k v=false):DM (FZ σ k p) v=DM σ v:=by
 cases v with
 | agg cs=>simp only[ZT]at h;simp only[DM,kU h]
 | fn p f g cs=>simp only[ZT]at h;simp only[DM,kU h]
 | row a b c d e=>exact Abq (v := .row a b c d e) h
 | ptr a b c d=>exact Abq (v := .ptr a b c d) h
 | _=>rfl
theorem AgX {k:Nat} {p:Nat->Nat × Nat} : ∀ {cs:d_},kO k cs=false->cs.map (DM (FZ σ k p))=cs.map (DM σ)
 | [],_=>rfl
 | c::r,h=>by
  simp only[kO]at h;cases h1:ZT k c<;>simp only[h1,cond_true,cond_false]at h
  ·rw[ta,ta,oW h1,AgX h]
  ·cases h
theorem uP {k:Nat} {p:Nat->Nat × Nat} {v:AV} (h:WE k v=false):DJ (FZ σ k p) v=DJ σ v:=by
 cases v with
 | e9 cs=>simp only[WE]at h;simp only[DJ,AgX h]
 | agg cs=>exact oW (v := .agg cs) h
 | fn p f g cs=>exact oW (v := .fn p f g cs) h
 | row a b c d e=>exact oW (v := .row a b c d e) h
 | ptr a b c d=>exact oW (v := .ptr a b c d) h
 | _=>rfl
theorem kP {k:Nat} : ∀ {tm:Tm},N5 k tm=false -> ∀ j,WE k (tg tm j)=false
 | [],_,_=>rfl
 | (i,v)::r,h,j=>by
  simp only[N5]at h;cases h1:WE k v<;>simp only[h1,cond_true,cond_false]at h
  ·simp only[tg]
   cases Wa j i
   ·exact kP h j
   ·exact h1
  ·cases h
theorem gW {k:Nat} : ∀ {M:Mem},LW k M=false -> ∀ j s c,c7 M j=some (s,c)->j≠k/\N4 k c=false
 | [],_,_,_,_,e=>by cases e
 | (i,s0,c0)::r,h,j,s,c,e=>by
  simp only[LW]at h;cases h0:Wa k i<;>simp only[h0,cond_true,cond_false]at h
  ·cases h1:N4 k c0<;>simp only[h1,cond_true,cond_false]at h
   ·simp only[c7]at e
    cases h2:Wa j i<;>simp only[h2,cond_true,cond_false]at e
    ·exact gW h j s c e
    ·simp only[ka,oc]at e
     obtain ⟨_,rfl⟩:=e;exact ⟨λ e=>JN.1 h0 (e.symm.trans (DY.1 h2)),h1⟩
   ·cases h
  ·cases h
theorem bI {σ σ':JF} {k:Nat} : ∀ (rows:List (b_)) (i:Nat),(∀ j,i<=j->σ k (j+1)=σ' k (j+1))->EN σ k i rows=EN σ' k i rows
 | [],i,h=>rfl
 | none::r,i,h=>by rw[EN,EN,bI r (i+1) λ j hj=>h j D']
 | some (z,es)::r,i,h=>by rw[EN,EN,bI r (i+1) λ j hj=>h j D',h i D']
theorem JH {k:Nat} : ∀ (rows:List (b_)) (i j:Nat),(EN σ k i rows)[j]? = (rows[j]?).map λ r=>match r with|none=>[.nil]|some (z,es)=>[.row (σ k (i+j+1)).1 (σ k (i+j+1)).2 z 0 es.length]
 | [],i,j=>by simp [EN]
 | none::r,i,0=>by simp [EN]
 | none::r,i,j+1=>by simp only[EN,Cd,JH r (i+1) j];rw[show i+1+j=i+(j+1) by omega]
 | some (z,es)::r,i,0=>by simp [EN]
 | some (z,es)::r,i,j+1=>by simp only[EN,Cd,JH r (i+1) j];rw[show i+1+j=i+(j+1) by omega]
theorem JI {k:Nat} : ∀ (rows:List (b_)) (i:Nat),(EN σ k i rows).length=rows.length
 | [],i=>rfl
 | none::r,i=>by simp [EN,JI r]
 | some (z,es)::r,i=>by simp [EN,JI r]
theorem qO {k j:Nat} {f:Nat->Nat × Nat} {c:C4} (h:N4 k c=false) (hj:j≠k):c.g8 (FZ σ k f) j=c.g8 σ j:=by
 cases c with
 | bx cs=>simp only[N4]at h;simp only[C4.g8,kU h]
 | rw z es=>rfl
 | bs z es=>simp only[N4]at h;simp only[C4.g8,Abo h]
 | mx rows=>simp only[C4.g8];rw[bI rows 0 λ i _=>by rw[E8 f hj]]
 | hx a v rows=>simp only[C4.g8];rw[bI rows 0 λ i _=>by rw[E8 f hj]]
 | vw w rows=>simp only[C4.g8];rw[bI rows 0 λ i _=>by rw[E8 f hj]]
theorem AlS {v:AV} (h:Df v=true):C3 σ v=v:=by cases v<;>first|rfl|cases h
theorem OO : ∀ {cs:d_},HR cs=true->cs.map (C3 σ)=cs
 | [],_=>rfl
 | c::r,h=>by
  simp only[HR]at h;cases h1:Df c<;>simp only[h1,cond_true,cond_false]at h
  ·cases h
  ·rw[ta,AlS h1,OO h]
theorem AlR {k:Nat} {v:AV} (h:Df v=true):WD k v=false:=by cases v<;>first|rfl|cases h
theorem xD {k:Nat} : ∀ {cs:d_},HR cs=true->QA k cs=false
 | [],_=>rfl
 | c::r,h=>by
  simp only[HR]at h;cases h1:Df c<;>simp only[h1,cond_true,cond_false]at h
  ·cases h
  ·simp only[QA,AlR h1,xD h,cond_false]
theorem AlL (v:AV):cv v = .any\/(cv v=v/\DJ σ v=v):=by
 cases v with
 | agg cs =>
  simp only[cv];cases h:HR cs
  ·exact Or.inl rfl
  ·exact Or.inr ⟨rfl,by simp only[DJ,DM,OO h]⟩
 | e9 vs=>cases vs with
  | nil=>exact Or.inr ⟨rfl,rfl⟩
  | cons=>exact Or.inl rfl
 | fn p f g cs=>cases cs with
  | nil=>exact Or.inr ⟨rfl,rfl⟩
  | cons=>exact Or.inl rfl
 | _=>first|exact Or.inl rfl|exact Or.inr ⟨rfl,rfl⟩
theorem AlI {k:Nat} (v:AV):WE k (cv v)=false:=by
 cases v with
 | agg cs =>
  simp only[cv];cases h:HR cs
  ·rfl
  ·exact xD h
 | e9 vs=>cases vs<;>rfl
 | fn p f g cs=>cases cs<;>rfl
 | _=>rfl
variable {tm:Tm} {M:Mem} {st:St}
theorem RX.ev (h:RX σ tm M st) {x:BM} {v:AV} (e:ex tm x=v) (hv:v ≠ .any):st.ev x=DJ σ v:=by
 cases x with
 | t n =>
  simp only[ex]at e;rcases h.tm n with h|h
  ·exact absurd (e.symm.trans h) hv
  ·rw[e]at h;exact h
 | c u =>
  simp only[ex]at e;rcases AlL (σ:=σ) u with h|⟨h,h'⟩
  ·exact absurd (e.symm.trans h) hv
  ·rw[<-e,h,h'];rfl
theorem Aek {k:Nat} (h:N5 k tm=false) (x:BM):WE k (ex tm x)=false:=by
 cases x with
 | t n=>exact kP h n
 | c u=>exact AlI u
theorem Agf {k:Nat} {v:AV} {cs:d_} (h:WE k v=false) (e:cellsOf v=some cs):QA k cs=false:=by
 cases v<;>simp only[cellsOf,ka,reduceCtorEq]at e<;>subst e<;>first|exact h|rfl|(simp only[WE,ZT]at h;simp only[QA,h,cond_false])
theorem WT {v:AV} {cs:d_} (e:cellsOf v=some cs):cellsOf (DJ σ v)=some (cs.map (C3 σ)):=by
 cases v<;>simp only[cellsOf,ka,reduceCtorEq]at e<;>subst e<;>rfl
def C4.flat:C4->Prop
 | .mx rows => ∀ (i:Nat) (x:Nat × c_),rows[i]? = some (some x)->False
 | .hx _ _ _=>False
 | .vw _ _=>False
 | _=>True
theorem H5 {M:Mem} {k s:Nat} {c:C4} (h:c7 M k=some (s,c)):b7 M k 0=some c:=by simp [b7,h]
theorem LR {M:Mem} {k t:Nat} {c:C4} (h:b7 M k t=some c) : ∃ s c0,c7 M k=some (s,c0)/\(t=0->c=c0)/\(∀ i,t=i+1 -> ∃ rows z es,((c0 = .mx rows \/ ∃ a v,c0 = .hx a v rows) \/ ∃ w,c0 = .vw w rows)/\rows[i]? = some (some (z,es))/\c = .rw z es):=by
 unfold b7 at h;cases hm:c7 M k with
 | none=>simp [hm]at h
 | some x =>
  obtain ⟨s,c0⟩:=x;simp only[hm]at h;refine ⟨s,c0,rfl,?_,?_⟩
  ·rintro rfl;exact (Fb h).symm
  ·rintro i rfl
   cases c0 with
   | mx rows =>
    simp only at h;cases hr:rows[i]? with
    | none=>simp [hr]at h
    | some r =>
     cases r with
     | none=>simp [hr]at h
     | some ze=>obtain ⟨z,es⟩:=ze;simp only[hr,ka]at h;exact ⟨rows,z,es,Or.inl (Or.inl rfl),hr,h.symm⟩
   | hx a v rows =>
    simp only at h;cases hr:rows[i]? with
    | none=>simp [hr]at h
    | some r =>
     cases r with
     | none=>simp [hr]at h
     | some ze=>obtain ⟨z,es⟩:=ze;simp only[hr,ka]at h;exact ⟨rows,z,es,Or.inl (Or.inr ⟨a,v,rfl⟩),hr,h.symm⟩
   | vw w rows =>
    simp only at h;cases hr:rows[i]? with
    | none=>simp [hr]at h
    | some r =>
     cases r with
     | none=>simp [hr]at h
     | some ze=>obtain ⟨z,es⟩:=ze;simp only[hr,ka]at h;exact ⟨rows,z,es,Or.inr ⟨w,rfl⟩,hr,h.symm⟩
   | _=>simp at h
theorem SJ {M:Mem} {k s:Nat} {c:C4} {j t:Nat} (h:j≠k):b7 ((k,s,c)::M) j t=b7 M j t:=by
 simp only[b7,c7,JN.2 h,cond_false]
theorem bG {M:Mem} {k s:Nat} {c:C4}:b7 ((k,s,c)::M) k 0=some c:=by simp [b7,c7]
theorem kD {M:Mem} {k s:Nat} {c:C4} (hc:c.flat) {t:Nat} {c':C4} (h:b7 ((k,s,c)::M) k t=some c'):t=0/\c'=c:=by
 cases t with
 | zero=>rw[bG]at h;exact ⟨rfl,(Fb h).symm⟩
 | succ i =>
  simp only[b7,c7,Ed,cond_true]at h;cases c with
  | mx rows =>
   simp only at h;split at h
   ·rename_i z es hr
    exact (hc i (z,es) hr).elim
   ·cases h
  | hx a v rows=>exact hc.elim
  | vw w rows=>exact hc.elim
  | _=>simp at h
theorem AqU {σ σ':JF} {k k':Nat} {rows:List (b_)} (h:C4.flat (.mx rows)):EN σ k 0 rows=EN σ' k' 0 rows:=by
 apply Sc;intro j;rw[JH,JH];cases hr:rows[j]? with
 | none=>rfl
 | some r=>cases r with
  | none=>rfl
  | some x=>exact (h j x hr).elim
theorem RX.pz (h:RX σ tm M st) {s q:Nat} (hm:LW s M=false) (ht:N5 s tm=false) (c:C4) (hf:c.flat) (hc:N4 s c=false) (hl:c.ur=true->IX q=true) :
  RX (FZ σ s λ_=>(q,st.own.j8 q)) tm ((s,q,c)::M) ⟨st.tm,st.own.put q ((st.own q).new (c.g8 σ s))⟩:=by
 have AuG : ∀ j t c',b7 M j t=some c'->((st.own.put q ((st.own q).new (c.g8 σ s))) (σ j t).1).g8 (σ j t).2=(st.own (σ j t).1).g8 (σ j t).2:=by
  intro j t c' e;by_cases hs:(σ j t).1=q
  ·have ho:=h.sat.old _ _ _ e
   rw[hs]at ho ⊢;simp only[BF.l9,EV.new];rw[if_neg D']
  ·rw[BF.ou _ _ _ _ hs]
 have Mi : ∀ s',(st.own s').j8<=((st.own.put q ((st.own q).new (c.g8 σ s))) s').j8:=by
  intro s';by_cases hs:s'=q
  ·subst hs;simp only[BF.l9,EV.new];omega
  ·rw[BF.ou _ _ _ _ hs];exact Pc _
 have n6 : ∀ j t c',j≠s->b7 ((s,q,c)::M) j t=some c'->b7 M j t=some c':=λ j t c' hj e=>by rwa [SJ hj]at e
 have Ct : ∀ j t c',b7 M j t=some c'->N4 s c'=false/\j≠s:=by
  intro j t c' e;obtain ⟨s1,c0,g1,g2,g3⟩:=LR e;obtain ⟨g4,g5⟩:=gW hm _ _ _ g1;refine ⟨?_,g4⟩;cases t with
  | zero=>rw[g2 rfl];exact g5
  | succ i=>obtain ⟨rows,z,es,_,_,rfl⟩:=g3 i rfl;rfl
 refine ⟨λ j => ?_,⟨?_,?_,?_,?_,?_⟩⟩
 ·rw[uP (kP ht j)];exact h.tm j
 ·intro j s' c' e
  simp only[c7]at e;cases hb:Wa j s<;>simp only[hb,cond_true,cond_false]at e
  ·rw[E8 _ (JN.1 hb)];exact h.sat.site _ _ _ e
  ·simp only[ka,oc]at e
   obtain ⟨rfl,rfl⟩:=e;rw[DY.1 hb,EG]
 ·intro j t c' e
  by_cases hj:j=s
  ·subst hj
   obtain ⟨rfl,rfl⟩:=kD hf e;have hb:c'.g8 (FZ σ j λ_=>(q,st.own.j8 q)) j=c'.g8 σ j:=by
    cases c' with
    | bx cs=>simp only[N4]at hc;simp only[C4.g8,kU hc]
    | rw z es=>rfl
    | bs z es=>simp only[N4]at hc;simp only[C4.g8,Abo hc]
    | mx rows=>exact congrArg (HU.mk 1) (AqU hf)
    | hx a v rows=>exact hf.elim
    | vw w rows=>exact hf.elim
   rw[EG,hb];simp [BF.l9,EV.new,BF.j8]
  ·have e':=n6 j t c' hj e
   rw[E8 _ hj,qO (Ct j t c' e').1 hj];exact (AuG j t c' e').trans (h.sat.g8 _ _ _ e')
 ·intro j t c' e
  by_cases hj:j=s
  ·subst hj
   rw[EG];simp [BF.l9,EV.new,BF.j8]
  ·have e':=n6 j t c' hj e
   rw[E8 _ hj];exact Qc (h.sat.old _ _ _ e') (Mi _)
 ·have xo : ∀ j t c',b7 M j t=some c'->σ j t=(q,st.own.j8 q)->False:=by
   intro j t c' e hh;have h2:=h.sat.old _ _ _ e;rw[hh]at h2;exact absurd h2 (uf _)
  intro j t j' t' c1 c2 e1 e2 hj;by_cases h1:j=s<;>by_cases h2:j'=s
  ·subst h1;subst h2
   exact ⟨rfl,(kD hf e1).1.trans (kD hf e2).1.symm⟩
  ·subst h1
   rw[EG,E8 _ h2]at hj;exact (xo _ _ _ (n6 _ _ _ h2 e2) hj.symm).elim
  ·subst h2
   rw[EG,E8 _ h1]at hj;exact (xo _ _ _ (n6 _ _ _ h1 e1) hj).elim
  ·rw[E8 _ h1,E8 _ h2]at hj
   exact h.sat.inj _ _ _ _ _ _ (n6 _ _ _ h1 e1) (n6 _ _ _ h2 e2) hj
 ·intro j t c' e hw
  by_cases hj:j=s
  ·subst hj
   obtain ⟨rfl,rfl⟩:=kD hf e;rw[EG];exact hl hw
  ·rw[E8 _ hj];exact h.sat.low _ _ _ (n6 j t c' hj e) hw
theorem XA {k j:Nat} {x:Nat × C4} : ∀ {M:Mem},c7 (v8 k M) j=some x->j≠k/\c7 M j=some x
 | [],e=>by cases e
 | (i,s,c)::r,e=>by
  simp only[v8]at e;cases hb:Wa k i<;>simp only[hb,cond_true,cond_false]at e
  ·simp only[c7]at e ⊢
   cases hj:Wa j i<;>simp only[hj,cond_true,cond_false]at e ⊢
   ·exact XA e
   ·exact ⟨λ e'=>JN.1 hb (e'.symm.trans (DY.1 hj)),e⟩
  ·obtain ⟨h1,h2⟩:=XA e
   refine ⟨h1,?_⟩;simp only[c7];rw[JN.2 (λ e'=>h1 (e'.trans (DY.1 hb).symm))];exact h2
theorem gI {own:BF} {p:Nat × Nat} {x:Option HU} {q:Nat × Nat} (h:q≠p):((own.put p.1 ((own p.1).v9 p.2 x)) q.1).g8 q.2=(own q.1).g8 q.2:=by
 by_cases hs:q.1=p.1
 ·rw[hs,BF.l9]
  simp only[EV.v9];rw[if_neg (λ e=>h (Oh hs e))]
 ·rw[BF.ou _ _ _ _ hs]
theorem tS {own:BF} {p:Nat × Nat} {x:Option HU}:((own.put p.1 ((own p.1).v9 p.2 x)) p.1).g8 p.2=x:=by simp [BF.l9,EV.v9]
theorem oC {own:BF} {p:Nat × Nat} {x:Option HU} (s:Nat):((own.put p.1 ((own p.1).v9 p.2 x)) s).j8=(own s).j8:=by
 by_cases hs:s=p.1
 ·subst hs;rw[BF.l9];rfl
 ·rw[BF.ou _ _ _ _ hs]
theorem RX.stq (h:RX σ tm M st) {k s:Nat} {c:C4} (e:c7 M k=some (s,c)) (hf:c.flat) (c':C4) (yd:c'.flat) (hir:c'.ur=true->c.ur=true) :
  RX σ tm ((k,s,c')::M) ⟨st.tm,st.own.put s ((st.own s).v9 (σ k 0).2 (some (c'.g8 σ k)))⟩:=by
 have hs:=h.sat.site _ _ _ e;subst hs;have e0:=H5 e;have hg : ∀ j t c1,b7 ((k,(σ k 0).1,c')::M) j t=some c1->(j=k/\t=0/\c1=c')\/(j≠k/\b7 M j t=some c1):=by
  intro j t c1 e1;by_cases hj:j=k
  ·subst hj
   obtain ⟨rfl,rfl⟩:=kD yd e1;exact Or.inl ⟨rfl,rfl,rfl⟩
  ·rw[SJ hj]at e1
   exact Or.inr ⟨hj,e1⟩
 have Bk : ∀ j t c1,b7 ((k,(σ k 0).1,c')::M) j t=some c1 -> ∃ c2,b7 M j t=some c2:=by
  intro j t c1 e1;rcases hg j t c1 e1 with ⟨rfl,rfl,rfl⟩|⟨_,h2⟩
  ·exact ⟨c,e0⟩
  ·exact ⟨c1,h2⟩
 refine ⟨h.tm,⟨?_,?_,?_,?_,?_⟩⟩
 ·intro j s' c1 e1
  simp only[c7]at e1;cases hb:Wa j k<;>simp only[hb,cond_true,cond_false]at e1
  ·exact h.sat.site _ _ _ e1
  ·simp only[ka,oc]at e1
   rw[DY.1 hb];exact e1.1
 ·intro j t c1 e1
  rcases hg j t c1 e1 with ⟨rfl,rfl,rfl⟩|⟨h1,h2⟩
  ·exact tS
  ·refine (gI (λ he => ?_)).trans (h.sat.g8 _ _ _ h2)
   exact h1 (h.sat.inj _ _ _ _ _ _ h2 e0 he).1
 ·intro j t c1 e1
  obtain ⟨c2,e2⟩:=Bk _ _ _ e1;show (σ j t).2<((st.own.put (σ k 0).1 ((st.own (σ k 0).1).v9 (σ k 0).2 (some (c'.g8 σ k)))) (σ j t).1).j8;rw[oC];exact h.sat.old _ _ _ e2
 ·intro j t j' t' c1 c2 e1 e2 hj
  obtain ⟨_,Rk⟩:=Bk _ _ _ e1;obtain ⟨_,Le⟩:=Bk _ _ _ e2;exact h.sat.inj _ _ _ _ _ _ Rk Le hj
 ·intro j t c1 e1 hw
  rcases hg j t c1 e1 with ⟨rfl,rfl,rfl⟩|⟨_,h2⟩
  ·exact h.sat.low _ _ _ e0 (hir hw)
  ·exact h.sat.low _ _ _ h2 hw
theorem sS {k t:Nat} {c:C4} (h:b7 M k (t+1)=some c):c.ur=true:=by
 obtain ⟨_,_,_,_,g3⟩:=LR h;obtain ⟨_,_,_,_,_,rfl⟩:=g3 t rfl;rfl
theorem WA {k j t:Nat} {c:C4} (h:b7 (v8 k M) j t=some c):j≠k/\b7 M j t=some c:=by
 obtain ⟨s,c0,g1,_⟩:=LR h;obtain ⟨h1,h2⟩:=XA g1;refine ⟨h1,?_⟩;unfold b7 at h ⊢;rw[g1]at h;rw[h2];exact h
theorem RX.kill (h:RX σ tm M st) {k s:Nat} {c:C4} (e:c7 M k=some (s,c)) :
  RX σ tm (v8 k M) ⟨st.tm,st.own.put s ((st.own s).v9 (σ k 0).2 none)⟩:=by
 have hs:=h.sat.site _ _ _ e;subst hs;have e0:=H5 e;refine ⟨h.tm,⟨?_,?_,?_,?_,?_⟩⟩
 ·intro j s' c1 e1
  exact h.sat.site _ _ _ (XA e1).2
 ·intro j t c1 e1
  obtain ⟨hj,e1⟩:=WA e1;refine (gI (λ he => ?_)).trans (h.sat.g8 _ _ _ e1);exact hj (h.sat.inj _ _ _ _ _ _ e1 e0 he).1
 ·intro j t c1 e1
  obtain ⟨hj,e1⟩:=WA e1;show (σ j t).2<((st.own.put (σ k 0).1 ((st.own (σ k 0).1).v9 (σ k 0).2 none)) (σ j t).1).j8;rw[oC];exact h.sat.old _ _ _ e1
 ·intro j t j' t' c1 c2 e1 e2 hj
  exact h.sat.inj _ _ _ _ _ _ (WA e1).2 (WA e2).2 hj
 ·intro j t c1 e1 hw
  exact h.sat.low _ _ _ (WA e1).2 hw
theorem RX.Avm (h:RX σ tm M st) {k s i z:Nat} {rows:List (b_)} {es es':c_} (e:c7 M k=some (s,.mx rows)) (hr:rows[i]? = some (some (z,es))) (hl:es'.length=es.length) :
  RX σ tm ((k,s,.mx (rows.set i (some (z,es'))))::M) ⟨st.tm,st.own.put (σ k (i+1)).1 ((st.own (σ k (i+1)).1).v9 (σ k (i+1)).2 (some ⟨z,es'⟩))⟩:=by
 have e1:b7 M k (i+1)=some (.rw z es):=by simp [b7,e,hr]
 have hi:i<rows.length:=(zS hr).1;have tj:EN σ k 0 (rows.set i (some (z,es')))=EN σ k 0 rows:=by
  apply Sc;intro j;rw[JH,JH];by_cases hj:i=j
  ·subst hj;rw[Eb hi,hr];simp [hl]
  ·rw[fc hj]
 have hg : ∀ j t c1,b7 ((k,s,.mx (rows.set i (some (z,es'))))::M) j t=some c1->(j=k/\t=i+1/\c1 = .rw z es')\/(¬ (j=k/\t=i+1) /\ ∃ c2,b7 M j t=some c2/\c2.g8 σ j=c1.g8 σ j):=by
  intro j t c1 g;by_cases hj:j=k
  ·subst hj
   cases t with
   | zero =>
    rw[bG]at g;obtain rfl:=Fb g;exact Or.inr ⟨D',_,H5 e,by simp only[C4.g8,tj]⟩
   | succ t =>
    simp only[b7,c7,Ed,cond_true]at g;by_cases Cw:i=t
    ·subst Cw
     rw[Eb hi]at g;exact Or.inl ⟨rfl,rfl,(Fb g).symm⟩
    ·rw[fc Cw]at g
     refine Or.inr ⟨D',c1,?_,rfl⟩;simp only[b7,e];exact g
  ·rw[SJ hj]at g
   exact Or.inr ⟨D',c1,g,rfl⟩
 have Bk : ∀ j t c1,b7 ((k,s,.mx (rows.set i (some (z,es'))))::M) j t=some c1 -> ∃ c2,b7 M j t=some c2:=by
  intro j t c1 g;rcases hg j t c1 g with ⟨rfl,rfl,rfl⟩|⟨_,c2,h2,_⟩
  ·exact ⟨_,e1⟩
  ·exact ⟨c2,h2⟩
 refine ⟨h.tm,⟨?_,?_,?_,?_,?_⟩⟩
 ·intro j s' c1 g
  simp only[c7]at g;cases hb:Wa j k<;>simp only[hb,cond_true,cond_false]at g
  ·exact h.sat.site _ _ _ g
  ·simp only[ka,oc]at g
   rw[DY.1 hb,<-g.1];exact h.sat.site _ _ _ e
 ·intro j t c1 g
  rcases hg j t c1 g with ⟨rfl,rfl,rfl⟩|⟨h1,c2,h2,h3⟩
  ·exact tS
  ·rw[<-h3]
   refine (gI (λ he => ?_)).trans (h.sat.g8 _ _ _ h2);exact h1 (h.sat.inj _ _ _ _ _ _ h2 e1 he)
 ·intro j t c1 g
  obtain ⟨c2,e2⟩:=Bk _ _ _ g;show (σ j t).2<((st.own.put (σ k (i+1)).1 ((st.own (σ k (i+1)).1).v9 (σ k (i+1)).2 (some ⟨z,es'⟩))) (σ j t).1).j8;rw[oC];exact h.sat.old _ _ _ e2
 ·intro j t j' t' c1 c2 g1 g2 hj
  obtain ⟨_,Rk⟩:=Bk _ _ _ g1;obtain ⟨_,Le⟩:=Bk _ _ _ g2;exact h.sat.inj _ _ _ _ _ _ Rk Le hj
 ·intro j t c1 g hw
  obtain ⟨c2,e2⟩:=Bk _ _ _ g;cases t with
  | zero =>
   by_cases hj:j=k
   ·subst hj;exact h.sat.low _ _ _ (H5 e) rfl
   ·rw[SJ hj]at g;exact h.sat.low _ _ _ g hw
  | succ t=>exact h.sat.low _ _ _ e2 (sS e2)
section
variable {k:Nat} {f:Nat->Nat × Nat}
theorem Abp {v:AV} (hf:f 0=σ k 0) (h:Y0 k v=false):C3 (FZ σ k f) v=C3 σ v:=by
 cases v with
 | row j t z o n =>
  simp only[Y0]at h;cases hb:Wa j k
  ·simp only[C3,E8 f (JN.1 hb)]
  ·obtain rfl:=DY.1 hb
   simp only[hb,cond_true]at h;cases t with
   | zero=>simp only[C3,EG,hf]
   | succ t=>cases h
 | ptr j t a b =>
  simp only[Y0]at h;cases hb:Wa j k
  ·simp only[C3,E8 f (JN.1 hb)]
  ·obtain rfl:=DY.1 hb
   simp only[hb,cond_true]at h;cases t with
   | zero=>simp only[C3,EG,hf]
   | succ t=>cases h
 | _=>rfl
theorem oT (hf:f 0=σ k 0) : ∀ {cs:d_},WX k cs=false->cs.map (C3 (FZ σ k f))=cs.map (C3 σ)
 | [],_=>rfl
 | c::r,h=>by
  simp only[WX]at h;cases h1:Y0 k c<;>simp only[h1,cond_true,cond_false]at h
  ·rw[ta,ta,Abp hf h1,oT hf h]
  ·cases h
theorem AgU (hf:f 0=σ k 0) : ∀ {es:c_},jG k es=false->(es.map λ cs=>cs.map (C3 (FZ σ k f)))=es.map λ cs=>cs.map (C3 σ)
 | [],_=>rfl
 | c::r,h=>by
  simp only[jG]at h;cases h1:WX k c<;>simp only[h1,cond_true,cond_false]at h
  ·rw[ta,ta,oT hf h1,AgU hf h]
  ·cases h
theorem oV {v:AV} (hf:f 0=σ k 0) (h:eJ k v=false):DM (FZ σ k f) v=DM σ v:=by
 cases v with
 | agg cs=>simp only[eJ]at h;simp only[DM,oT hf h]
 | fn p f g cs=>simp only[eJ]at h;simp only[DM,oT hf h]
 | row a b c d e=>exact Abp (v := .row a b c d e) hf h
 | ptr a b c d=>exact Abp (v := .ptr a b c d) hf h
 | _=>rfl
theorem AgV (hf:f 0=σ k 0) : ∀ {cs:d_},jF k cs=false->cs.map (DM (FZ σ k f))=cs.map (DM σ)
 | [],_=>rfl
 | c::r,h=>by
  simp only[jF]at h;cases h1:eJ k c<;>simp only[h1,cond_true,cond_false]at h
  ·rw[ta,ta,oV hf h1,AgV hf h]
  ·cases h
theorem AgY {v:AV} (hf:f 0=σ k 0) (h:aB k v=false):DJ (FZ σ k f) v=DJ σ v:=by
 cases v with
 | e9 cs=>simp only[aB]at h;simp only[DJ,AgV hf h]
 | agg cs=>exact oV (v := .agg cs) hf h
 | fn p f g cs=>exact oV (v := .fn p f g cs) hf h
 | row a b c d e=>exact oV (v := .row a b c d e) hf h
 | ptr a b c d=>exact oV (v := .ptr a b c d) hf h
 | _=>rfl
theorem wI : ∀ {tm:Tm},RC k tm=false -> ∀ j,aB k (tg tm j)=false
 | [],_,_=>rfl
 | (i,v)::r,h,j=>by
  simp only[RC]at h;cases h1:aB k v<;>simp only[h1,cond_true,cond_false]at h
  ·simp only[tg]
   cases Wa j i
   ·exact wI h j
   ·exact h1
  ·cases h
theorem wH : ∀ {M:Mem},OH k M=false -> ∀ j s c,c7 M j=some (s,c)->WU k c=false
 | [],_,_,_,_,e=>by cases e
 | (i,s0,c0)::r,h,j,s,c,e=>by
  simp only[OH]at h;cases h1:WU k c0<;>simp only[h1,cond_true,cond_false]at h
  ·simp only[c7]at e
   cases h2:Wa j i<;>simp only[h2,cond_true,cond_false]at e
   ·exact wH h j s c e
   ·simp only[ka,oc]at e
    obtain ⟨_,rfl⟩:=e;exact h1
  ·cases h
theorem Acv {c:C4} {j:Nat} (hf:f 0=σ k 0) (h:WU k c=false) (hj:j≠k):c.g8 (FZ σ k f) j=c.g8 σ j:=by
 cases c with
 | bx cs=>simp only[WU]at h;simp only[C4.g8,oT hf h]
 | rw z es=>rfl
 | bs z es=>simp only[WU]at h;simp only[C4.g8,AgU hf h]
 | mx rows=>simp only[C4.g8];rw[bI rows 0 λ i _=>by rw[E8 f hj]]
 | hx a v rows=>simp only[C4.g8];rw[bI rows 0 λ i _=>by rw[E8 f hj]]
 | vw w rows=>simp only[C4.g8];rw[bI rows 0 λ i _=>by rw[E8 f hj]]
end
theorem RX.Ox (h:RX σ tm M st) {k k2 s s2 i z:Nat} {rows:List (b_)} {es:c_} {c0:C4} (e:c7 M k=some (s,c0)) (qf:c0 = .mx rows \/ ∃ v,c0 = .hx i v rows) (e2:c7 M k2=some (s2,.rw z es)) (hk:k≠k2) (iw:RC k tm=false) (yc:OH k M=false) (hi:i<rows.length) :
  RX (FZ σ k λ t=>if t=i+1 then σ k2 0 else σ k t) tm ((k,s,.mx (rows.set i (some (z,es))))::v8 k2 M) ⟨st.tm,st.own.put s ((st.own s).v9 (σ k 0).2 (some ⟨1,(EN σ k 0 rows).set i [.row (σ k2 0).1 (σ k2 0).2 z 0 es.length]⟩))⟩:=by
 have hs:=h.sat.site _ _ _ e;subst hs;have r0:=H5 e;have r2:=H5 e2;have f0:(λ t=>if t=i+1 then σ k2 0 else σ k t) 0=σ k 0:=p_
 have tj:EN (FZ σ k λ t=>if t=i+1 then σ k2 0 else σ k t) k 0 (rows.set i (some (z,es)))=(EN σ k 0 rows).set i [.row (σ k2 0).1 (σ k2 0).2 z 0 es.length]:=by
  apply Sc;intro j;rw[JH,EG];by_cases hj:i=j
  ·subst hj
   rw[Eb hi,Eb (by rw[JI];exact hi)];simp
  ·rw[fc hj,fc hj,JH]
   congr 1;funext r
   cases r with
   | none=>rfl
   | some x=>simp only[uc];rw[if_neg D']
 have hg : ∀ j t c,b7 ((k,(σ k 0).1,.mx (rows.set i (some (z,es))))::v8 k2 M) j t=some c ->
   (j=k/\t=0/\c = .mx (rows.set i (some (z,es))))\/(j=k/\t=i+1/\c = .rw z es)\/(j=k/\t≠0/\t≠i+1/\b7 M k t=some c)\/(j≠k/\j≠k2/\b7 M j t=some c):=by
  intro j t c g;by_cases hj:j=k
  ·subst hj
   cases t with
   | zero=>rw[bG]at g;exact Or.inl ⟨rfl,rfl,(Fb g).symm⟩
   | succ t =>
    simp only[b7,c7,Ed,cond_true]at g;by_cases Cw:i=t
    ·subst Cw
     rw[Eb hi]at g;exact Or.inr (Or.inl ⟨rfl,rfl,(Fb g).symm⟩)
    ·rw[fc Cw]at g
     refine Or.inr (Or.inr (Or.inl ⟨rfl,D',D',?_⟩));rcases qf with rfl|⟨v,rfl⟩
     ·simp only[b7,e]
      exact g
     ·simp only[b7,e]
      exact g
  ·rw[SJ hj]at g
   obtain ⟨g1,g2⟩:=WA g;exact Or.inr (Or.inr (Or.inr ⟨hj,g1,g2⟩))
 have hch : ∀ j t c,b7 M j t=some c->WU k c=false:=by
  intro j t c g;obtain ⟨s1,c0,g1,g2,g3⟩:=LR g;cases t with
  | zero=>rw[g2 rfl];exact wH yc _ _ _ g1
  | succ t=>obtain ⟨_,_,_,_,_,rfl⟩:=g3 t rfl;rfl
 refine ⟨λ j => ?_,⟨?_,?_,?_,?_,?_⟩⟩
 ·rw[AgY (f:=λ t=>if t=i+1 then σ k2 0 else σ k t) f0 (wI iw j)];exact h.tm j
 ·intro j s' c g
  simp only[c7]at g;cases hb:Wa j k<;>simp only[hb,cond_true,cond_false]at g
  ·rw[E8 _ (JN.1 hb)];exact h.sat.site _ _ _ (XA g).2
  ·simp only[ka,oc]at g
   rw[DY.1 hb,EG,<-g.1];simp
 ·intro j t c g
  rcases hg j t c g with ⟨rfl,rfl,rfl⟩|⟨rfl,rfl,rfl⟩|⟨rfl,h0,h1,g2⟩|⟨h0,h1,g2⟩
  ·rw[EG]
   simp only[C4.g8,tj];exact tS
  ·rw[EG]
   simp only[if_true];exact (gI (λ he=>hk (h.sat.inj _ _ _ _ _ _ r2 r0 he).1.symm)).trans (h.sat.g8 _ _ _ r2)
  ·rw[EG]
   simp only[h1,if_false];have hb:c.g8 (FZ σ j λ t=>if t=i+1 then σ k2 0 else σ j t) j=c.g8 σ j:=by
    obtain ⟨_,_,_,_,g3⟩:=LR g2;obtain ⟨t',rfl⟩ : ∃ t',t=t'+1:=⟨t-1,D'⟩;obtain ⟨_,_,_,_,_,rfl⟩:=g3 t' rfl;rfl
   rw[hb];exact (gI (λ he=>h0 (h.sat.inj _ _ _ _ _ _ g2 r0 he).2)).trans (h.sat.g8 _ _ _ g2)
  ·rw[E8 _ h0,Acv (f:=λ t=>if t=i+1 then σ k2 0 else σ k t) f0 (hch _ _ _ g2) h0]
   exact (gI (λ he=>h0 (h.sat.inj _ _ _ _ _ _ g2 r0 he).1)).trans (h.sat.g8 _ _ _ g2)
 ·intro j t c g
  rw[oC];rcases hg j t c g with ⟨rfl,rfl,rfl⟩|⟨rfl,rfl,rfl⟩|⟨rfl,h0,h1,g2⟩|⟨h0,h1,g2⟩
  ·rw[EG];simpa using h.sat.old _ _ _ r0
  ·rw[EG];simpa using h.sat.old _ _ _ r2
  ·rw[EG];simp only[h1,if_false];exact h.sat.old _ _ _ g2
  ·rw[E8 _ h0];exact h.sat.old _ _ _ g2
 ·-- each name is that of Qw in the old memory
  have hold : ∀ j t c,b7 ((k,(σ k 0).1,.mx (rows.set i (some (z,es))))::v8 k2 M) j t=some c -> ∃ j0 t0 c0,b7 M j0 t0=some c0/\(FZ σ k λ t=>if t=i+1 then σ k2 0 else σ k t) j t=σ j0 t0/\((j0=k2/\t0=0/\j=k/\t=i+1)\/(j0=j/\t0=t/\j≠k2)):=by
   intro j t c g;rcases hg j t c g with ⟨rfl,rfl,rfl⟩|⟨rfl,rfl,rfl⟩|⟨rfl,h0,h1,g2⟩|⟨h0,h1,g2⟩
   ·exact ⟨_,_,_,r0,by rw[EG];simp,Or.inr ⟨rfl,rfl,hk⟩⟩
   ·exact ⟨_,_,_,r2,by rw[EG];simp,Or.inl ⟨rfl,rfl,rfl,rfl⟩⟩
   ·exact ⟨_,_,_,g2,by rw[EG];simp [h1],Or.inr ⟨rfl,rfl,hk⟩⟩
   ·exact ⟨_,_,_,g2,by rw[E8 _ h0],Or.inr ⟨rfl,rfl,h1⟩⟩
  intro j t j' t' c c' g g' hj;obtain ⟨j0,t0,c0,a1,a2,a3⟩:=hold j t c g;obtain ⟨j1,t1,c1,b1,b2,b3⟩:=hold j' t' c' g';rw[a2,b2]at hj;obtain ⟨q1,q2⟩:=h.sat.inj _ _ _ _ _ _ a1 b1 hj;rcases a3 with ⟨x1,x2,x3,x4⟩|⟨x1,x2,x3⟩<;>rcases b3 with ⟨y1,y2,y3,y4⟩|⟨y1,y2,y3⟩
  ·exact ⟨x3.trans y3.symm,x4.trans y4.symm⟩
  ·exact absurd (y1.symm.trans (q1.symm.trans x1)) y3
  ·exact absurd (x1.symm.trans (q1.trans y1)) x3
  ·exact ⟨x1.symm.trans (q1.trans y1),x2.symm.trans (q2.trans y2)⟩
 ·intro j t c g hw
  rcases hg j t c g with ⟨rfl,rfl,rfl⟩|⟨rfl,rfl,rfl⟩|⟨rfl,h0,h1,g2⟩|⟨h0,h1,g2⟩
  ·rw[EG];simpa using h.sat.low _ _ _ r0 (by rcases qf with rfl|⟨v,rfl⟩<;>rfl)
  ·rw[EG];simpa using h.sat.low _ _ _ r2 rfl
  ·rw[EG];simp only[h1,if_false];exact h.sat.low _ _ _ g2 hw
  ·rw[E8 _ h0];exact h.sat.low _ _ _ g2 hw
theorem fY {own:BF} {q t:Nat} {b:HU} {p:Nat × Nat} (h:p≠(q,t)) (ho:p.2<(own p.1).j8):((own.put q (((own q).v9 t none).new b)) p.1).g8 p.2=(own p.1).g8 p.2:=by
 by_cases hs:p.1=q
 ·rw[hs]at ho ⊢
  rw[BF.l9];simp only[EV.new,EV.v9];have h1 : ¬ p.2=(own q).j8:=D'
  have h2 : ¬ p.2=t:=λ e=>h (Oh hs e)
  simp only[h1,h2,if_false]
 ·rw[BF.ou _ _ _ _ hs]
theorem gB {own:BF} {q t:Nat} {b:HU} (s:Nat):(own s).j8<=((own.put q (((own q).v9 t none).new b)) s).j8:=by
 by_cases hs:s=q
 ·subst hs;rw[BF.l9];simp only[EV.new,EV.v9];omega
 ·rw[BF.ou _ _ _ _ hs];exact Pc _
theorem RX.Ath (h:RX σ tm M st) {s key sk i z:Nat} {rows:List (b_)} {es es':c_} (e:c7 M key=some (sk,.mx rows)) (hr:rows[i]? = some (some (z,es))) (hm:LW s M=false) (ht:N5 s tm=false) :
  RX (FZ σ s λ_=>((σ key (i+1)).1,st.own.j8 (σ key (i+1)).1)) tm ((s,(σ key (i+1)).1,.rw z es')::(key,sk,.hx i (.row (σ key (i+1)).1 (σ key (i+1)).2 z 0 es.length) (rows.set i none))::v8 key M)
   ⟨st.tm,st.own.put (σ key (i+1)).1 (((st.own (σ key (i+1)).1).v9 (σ key (i+1)).2 none).new ⟨z,es'⟩)⟩:=by
 have r0:=H5 e;have e1:b7 M key (i+1)=some (.rw z es):=by simp [b7,e,hr]
 have hi:i<rows.length:=(zS hr).1;have Nf:key≠s:=(gW hm _ _ _ e).1;have tj:(EN (FZ σ s λ_=>((σ key (i+1)).1,st.own.j8 (σ key (i+1)).1)) key 0 (rows.set i none)).set i [.row (σ key (i+1)).1 (σ key (i+1)).2 z 0 es.length]=EN σ key 0 rows:=by
  apply Sc;intro j;by_cases hj:i=j
  ·subst hj
   rw[Eb (by rw[JI,List.length_set];exact hi),JH,hr];simp
  ·rw[fc hj,JH,JH,fc hj,E8 _ Nf]
 have Ct : ∀ j t c',b7 M j t=some c'->N4 s c'=false/\j≠s:=by
  intro j t c' g;obtain ⟨s1,c0,g1,g2,g3⟩:=LR g;obtain ⟨g4,g5⟩:=gW hm _ _ _ g1;refine ⟨?_,g4⟩;cases t with
  | zero=>rw[g2 rfl];exact g5
  | succ i=>obtain ⟨rows,z,es,_,_,rfl⟩:=g3 i rfl;rfl
 have hg : ∀ j t c,b7 ((s,(σ key (i+1)).1,.rw z es')::(key,sk,.hx i (.row (σ key (i+1)).1 (σ key (i+1)).2 z 0 es.length) (rows.set i none))::v8 key M) j t=some c ->
   (j=s/\t=0/\c = .rw z es')\/(j=key/\t=0/\c = .hx i (.row (σ key (i+1)).1 (σ key (i+1)).2 z 0 es.length) (rows.set i none))\/(j≠s /\ ¬ (j=key/\t=0) /\ ¬ (j=key/\t=i+1)/\(j=key -> ∃ z es,c = .rw z es)/\b7 M j t=some c):=by
  intro j t c g;by_cases hj:j=s
  ·subst hj
   obtain ⟨rfl,rfl⟩:=kD (c := .rw z es') trivial g;exact Or.inl ⟨rfl,rfl,rfl⟩
  ·rw[SJ hj]at g
   by_cases hk:j=key
   ·subst hk
    cases t with
    | zero=>rw[bG]at g;exact Or.inr (Or.inl ⟨rfl,rfl,(Fb g).symm⟩)
    | succ t =>
     simp only[b7,c7,Ed,cond_true]at g;by_cases Cw:i=t
     ·subst Cw
      rw[Eb hi]at g;cases g
     ·rw[fc Cw]at g
      refine Or.inr (Or.inr ⟨hj,D',D',λ_ => ?_,?_⟩)
      ·split at g
       ·exact ⟨_,_,(Fb g).symm⟩
       ·cases g
      ·simp only[b7,e]
       exact g
   ·rw[SJ hk]at g
    obtain ⟨g1,g2⟩:=WA g;exact Or.inr (Or.inr ⟨hj,D',D',λ h=>absurd h hk,g2⟩)
 refine ⟨λ j => ?_,⟨?_,?_,?_,?_,?_⟩⟩
 ·rw[uP (kP ht j)];exact h.tm j
 ·intro j s1 c g
  simp only[c7]at g;cases hb:Wa j s<;>simp only[hb,cond_true,cond_false]at g
  ·rw[E8 _ (JN.1 hb)]
   cases ag:Wa j key<;>simp only[ag,cond_true,cond_false]at g
   ·exact h.sat.site _ _ _ (XA g).2
   ·simp only[ka,oc]at g
    rw[DY.1 ag,<-g.1];exact h.sat.site _ _ _ e
  ·simp only[ka,oc]at g
   rw[DY.1 hb,EG,<-g.1]
 ·intro j t c g
  rcases hg j t c g with ⟨rfl,rfl,rfl⟩|⟨rfl,rfl,rfl⟩|⟨h0,h1,h2,h3,g2⟩
  ·rw[EG]
   simp [BF.l9,EV.new,BF.j8,EV.v9,C4.g8]
  ·rw[E8 _ Nf]
   simp only[C4.g8,tj];exact (fY (λ he=>absurd (h.sat.inj _ _ _ _ _ _ r0 e1 he).2 D') (h.sat.old _ _ _ r0)).trans (h.sat.g8 _ _ _ r0)
  ·rw[E8 _ h0,qO (Ct _ _ _ g2).1 h0]
   exact (fY (λ he=>h2 (h.sat.inj _ _ _ _ _ _ g2 e1 he)) (h.sat.old _ _ _ g2)).trans (h.sat.g8 _ _ _ g2)
 ·intro j t c g
  rcases hg j t c g with ⟨rfl,rfl,rfl⟩|⟨rfl,rfl,rfl⟩|⟨h0,h1,h2,h3,g2⟩
  ·rw[EG]
   simp [BF.l9,EV.new,BF.j8,EV.v9]
  ·rw[E8 _ Nf]
   exact Qc (h.sat.old _ _ _ r0) (gB _)
  ·rw[E8 _ h0]
   exact Qc (h.sat.old _ _ _ g2) (gB _)
 ·have hold : ∀ j t c,b7 ((s,(σ key (i+1)).1,.rw z es')::(key,sk,.hx i (.row (σ key (i+1)).1 (σ key (i+1)).2 z 0 es.length) (rows.set i none))::v8 key M) j t=some c->(j=s/\t=0)\/(j≠s /\ ∃ c0,b7 M j t=some c0):=by
   intro j t c g;rcases hg j t c g with ⟨rfl,rfl,rfl⟩|⟨rfl,rfl,rfl⟩|⟨h0,h1,h2,h3,g2⟩
   ·exact Or.inl ⟨rfl,rfl⟩
   ·exact Or.inr ⟨Nf,_,r0⟩
   ·exact Or.inr ⟨h0,_,g2⟩
  have yk : ∀ j0 t0 c0,b7 M j0 t0=some c0->((σ key (i+1)).1,st.own.j8 (σ key (i+1)).1)≠σ j0 t0:=by
   intro j0 t0 c0 g he;have:=h.sat.old _ _ _ g
   rw[<-he]at this;exact absurd this (uf _)
  intro j t j' t' c c' g g' hj;rcases hold j t c g with ⟨rfl,rfl⟩|⟨a1,c1,a2⟩<;>rcases hold j' t' c' g' with ⟨rfl,rfl⟩|⟨b1,c2,b2⟩
  ·exact ⟨rfl,rfl⟩
  ·rw[EG,E8 _ b1]at hj;exact absurd hj (yk _ _ _ b2)
  ·rw[EG,E8 _ a1]at hj;exact absurd hj.symm (yk _ _ _ a2)
  ·rw[E8 _ a1,E8 _ b1]at hj
   exact h.sat.inj _ _ _ _ _ _ a2 b2 hj
 ·intro j t c g hw
  rcases hg j t c g with ⟨rfl,rfl,rfl⟩|⟨rfl,rfl,rfl⟩|⟨h0,h1,h2,h3,g2⟩
  ·rw[EG];exact h.sat.low _ _ _ e1 rfl
  ·rw[E8 _ Nf];exact h.sat.low _ _ _ r0 rfl
  ·rw[E8 _ h0];exact h.sat.low _ _ _ g2 hw
theorem RX.view (h:RX σ tm M st) {k s:Nat} {c0:C4} {rows:List (b_)} {w:a_} (e:c7 M k=some (s,c0)) (qf:c0 = .mx rows \/ ∃ w0,c0 = .vw w0 rows) :
  RX σ tm ((k,s,.vw w rows)::M) ⟨st.tm,st.own.put s ((st.own s).v9 (σ k 0).2 (some (C4.g8 σ k (.vw w rows))))⟩:=by
 have hs:=h.sat.site _ _ _ e;subst hs;have r0:=H5 e;have hg : ∀ j t c,b7 ((k,(σ k 0).1,.vw w rows)::M) j t=some c->(j=k/\t=0/\c = .vw w rows)\/(¬ (j=k/\t=0)/\b7 M j t=some c):=by
  intro j t c g;by_cases hj:j=k
  ·subst hj
   cases t with
   | zero=>rw[bG]at g;exact Or.inl ⟨rfl,rfl,(Fb g).symm⟩
   | succ t =>
    refine Or.inr ⟨D',?_⟩;simp only[b7,c7,Ed,cond_true]at g;rcases qf with rfl|⟨w0,rfl⟩
    ·simp only[b7,e]
     exact g
    ·simp only[b7,e]
     exact g
  ·rw[SJ hj]at g
   exact Or.inr ⟨D',g⟩
 have Bk : ∀ j t c1,b7 ((k,(σ k 0).1,.vw w rows)::M) j t=some c1 -> ∃ c2,b7 M j t=some c2:=by
  intro j t c1 g;rcases hg j t c1 g with ⟨rfl,rfl,rfl⟩|⟨_,h2⟩
  ·exact ⟨_,r0⟩
  ·exact ⟨_,h2⟩
 refine ⟨h.tm,⟨?_,?_,?_,?_,?_⟩⟩
 ·intro j s' c1 g
  simp only[c7]at g;cases hb:Wa j k<;>simp only[hb,cond_true,cond_false]at g
  ·exact h.sat.site _ _ _ g
  ·simp only[ka,oc]at g
   rw[DY.1 hb];exact g.1
 ·intro j t c1 g
  rcases hg j t c1 g with ⟨rfl,rfl,rfl⟩|⟨h1,h2⟩
  ·exact tS
  ·refine (gI (λ he => ?_)).trans (h.sat.g8 _ _ _ h2)
   exact h1 (h.sat.inj _ _ _ _ _ _ h2 r0 he)
 ·intro j t c1 g
  obtain ⟨c2,e2⟩:=Bk _ _ _ g;show (σ j t).2<((st.own.put (σ k 0).1 ((st.own (σ k 0).1).v9 (σ k 0).2 _)) (σ j t).1).j8;rw[oC];exact h.sat.old _ _ _ e2
 ·intro j t j' t' c1 c2 g1 g2 hj
  obtain ⟨_,Rk⟩:=Bk _ _ _ g1;obtain ⟨_,Le⟩:=Bk _ _ _ g2;exact h.sat.inj _ _ _ _ _ _ Rk Le hj
 ·intro j t c1 g hw
  rcases hg j t c1 g with ⟨rfl,rfl,rfl⟩|⟨_,h2⟩
  ·exact h.sat.low _ _ _ r0 (by rcases qf with rfl|⟨w0,rfl⟩<;>rfl)
  ·exact h.sat.low _ _ _ h2 hw
theorem RX.Oz (h:RX σ tm M st) {k s:Nat} {rows y8:List (b_)} {w:a_} (e:c7 M k=some (s,.vw w rows)) (hl:y8.length=w.length)
  (hw : ∀ (i t:Nat),w[i]? = some t -> ∃ r,rows[t]? = some r/\y8[i]? = some r) (hi : ∀ (i i' t:Nat),w[i]? = some t->w[i']? = some t->i=i') (iw:RC k tm=false) (yc:OH k M=false) :
  ∃ σ',RX σ' tm ((k,s,.mx y8)::M) st:=by
 have hs:=h.sat.site _ _ _ e;subst hs;have r0:=H5 e;obtain ⟨f,hf⟩ : ∃ f:Nat->Nat × Nat,f=λ t=>match t with|0=>σ k 0|i+1=>match w[i]? with|some v=>σ k (v+1)|none=>σ k (i+1):=⟨_,rfl⟩
 have f0:f 0=σ k 0:=by rw[hf]
 have f1 : ∀ i v,w[i]? = some v->f (i+1)=σ k (v+1):=λ i v hv=>by rw[hf];simp only[hv]
 have hch : ∀ j t c,b7 M j t=some c->WU k c=false:=by
  intro j t c g;obtain ⟨s1,c0,g1,g2,g3⟩:=LR g;cases t with
  | zero=>rw[g2 rfl];exact wH yc _ _ _ g1
  | succ t=>obtain ⟨_,_,_,_,_,rfl⟩:=g3 t rfl;rfl
 have Er : ∀ i,i<y8.length -> ∃ v r,w[i]? = some v/\rows[v]? = some r/\y8[i]? = some r:=λ i hi=>by
  obtain ⟨v,hv⟩:=X_ w i;obtain ⟨r,h1,h2⟩:=hw i v hv;exact ⟨v,r,hv,h1,h2⟩
 have tj:EN (FZ σ k f) k 0 y8=w.map λ t=>((EN σ k 0 rows)[t]?).getD []:=by
  apply Sc;intro i;rw[JH,EG,Uc];by_cases dw:i<y8.length
  ·obtain ⟨v,r,h1,h2,h3⟩:=Er i dw
   rw[h3,h1,Wb,Wb,JH,h2,Wb,Ve,uc,uc,f1 i v h1]
  ·rw[Hb D',Hb D'];rfl
 have hg : ∀ j t c,b7 ((k,(σ k 0).1,.mx y8)::M) j t=some c ->
   (j=k/\t=0/\c = .mx y8)\/(∃ i v,j=k/\t=i+1/\w[i]? = some v/\b7 M k (v+1)=some c)\/(j≠k/\b7 M j t=some c):=by
  intro j t c g;by_cases hj:j=k
  ·subst hj
   cases t with
   | zero=>rw[bG]at g;exact Or.inl ⟨rfl,rfl,(Fb g).symm⟩
   | succ t =>
    simp only[b7,c7,Ed,cond_true]at g;by_cases gp:t<y8.length
    ·obtain ⟨v,r,h1,h2,h3⟩:=Er t gp
     refine Or.inr (Or.inl ⟨t,v,rfl,rfl,h1,?_⟩);rw[h3]at g;simp only[b7,e,h2];exact g
    ·rw[Hb D']at g;cases g
  ·rw[SJ hj]at g
   exact Or.inr (Or.inr ⟨hj,g⟩)
 have hcr : ∀ v c,b7 M k (v+1)=some c -> ∃ z es,c = .rw z es:=λ v c g=>by
  obtain ⟨_,_,_,_,g3⟩:=LR g;obtain ⟨_,z,es,_,_,rfl⟩:=g3 v rfl;exact ⟨z,es,rfl⟩
 refine ⟨FZ σ k f,λ j => ?_,⟨?_,?_,?_,?_,?_⟩⟩
 ·rw[AgY f0 (wI iw j)];exact h.tm j
 ·intro j s' c g
  simp only[c7]at g;cases hb:Wa j k<;>simp only[hb,cond_true,cond_false]at g
  ·rw[E8 _ (JN.1 hb)];exact h.sat.site _ _ _ g
  ·simp only[ka,oc]at g
   rw[DY.1 hb,EG,<-g.1,f0]
 ·intro j t c g
  rcases hg j t c g with ⟨rfl,rfl,rfl⟩|⟨i,v,rfl,rfl,h1,g2⟩|⟨h0,g2⟩
  ·rw[EG,f0]
   have:=h.sat.g8 _ _ _ r0
   simp only[C4.g8,tj]at this ⊢;exact this
  ·rw[EG,f1 i v h1]
   obtain ⟨z,es,rfl⟩:=hcr v c g2;exact h.sat.g8 _ _ _ g2
  ·rw[E8 _ h0,Acv f0 (hch _ _ _ g2) h0]
   exact h.sat.g8 _ _ _ g2
 ·intro j t c g
  rcases hg j t c g with ⟨rfl,rfl,rfl⟩|⟨i,v,rfl,rfl,h1,g2⟩|⟨h0,g2⟩
  ·rw[EG,f0];exact h.sat.old _ _ _ r0
  ·rw[EG,f1 i v h1];exact h.sat.old _ _ _ g2
  ·rw[E8 _ h0];exact h.sat.old _ _ _ g2
 ·have hold : ∀ j t c,b7 ((k,(σ k 0).1,.mx y8)::M) j t=some c -> ∃ j0 t0 c0,b7 M j0 t0=some c0/\(FZ σ k f) j t=σ j0 t0/\((j=k/\j0=k/\((t=0/\t0=0) \/ ∃ i v,t=i+1/\t0=v+1/\w[i]? = some v))\/(j≠k/\j0=j/\t0=t)):=by
   intro j t c g;rcases hg j t c g with ⟨rfl,rfl,rfl⟩|⟨i,v,rfl,rfl,h1,g2⟩|⟨h0,g2⟩
   ·exact ⟨_,_,_,r0,by rw[EG,f0],Or.inl ⟨rfl,rfl,Or.inl ⟨rfl,rfl⟩⟩⟩
   ·exact ⟨_,_,_,g2,by rw[EG,f1 i v h1],Or.inl ⟨rfl,rfl,Or.inr ⟨i,v,rfl,rfl,h1⟩⟩⟩
   ·exact ⟨_,_,_,g2,by rw[E8 _ h0],Or.inr ⟨h0,rfl,rfl⟩⟩
  intro j t j' t' c c' g g' hj;obtain ⟨j0,t0,c0,a1,a2,a3⟩:=hold j t c g;obtain ⟨j1,t1,c1,b1,b2,b3⟩:=hold j' t' c' g';rw[a2,b2]at hj;obtain ⟨q1,q2⟩:=h.sat.inj _ _ _ _ _ _ a1 b1 hj;rcases a3 with ⟨x1,x2,x3⟩|⟨x1,x2,x3⟩<;>rcases b3 with ⟨y1,y2,y3⟩|⟨y1,y2,y3⟩
  ·refine ⟨x1.trans y1.symm,?_⟩
   rcases x3 with ⟨x4,x5⟩|⟨i,v,x4,x5,x6⟩<;>rcases y3 with ⟨y4,y5⟩|⟨i',v',y4,y5,y6⟩
   ·omega
   ·omega
   ·omega
   ·obtain rfl:v=v':=D'
    have:=hi i i' v x6 y6
    omega
  ·exact absurd (y2.symm.trans (q1.symm.trans x2)) y1
  ·exact absurd (x2.symm.trans (q1.trans y2)) x1
  ·exact ⟨x2.symm.trans (q1.trans y2),x3.symm.trans (q2.trans y3)⟩
 ·intro j t c g hw
  rcases hg j t c g with ⟨rfl,rfl,rfl⟩|⟨i,v,rfl,rfl,h1,g2⟩|⟨h0,g2⟩
  ·rw[EG,f0];exact h.sat.low _ _ _ r0 rfl
  ·rw[EG,f1 i v h1];exact h.sat.low _ _ _ g2 (sS g2)
  ·rw[E8 _ h0];exact h.sat.low _ _ _ g2 hw
theorem RX.Atj (h:RX σ tm M st) {s key s':Nat} {rows:List (b_)} (e:c7 M key=some (s',.mx rows)) (hm:LW s M=false) (ht:N5 s tm=false) :
  RX (FZ σ s λ t=>match t with|0=>(s',st.own.j8 s')|i+1=>σ key (i+1)) tm ((s,s',.mx (rows++[none]))::v8 key M)
   ⟨st.tm,st.own.put s' (((st.own s').v9 (σ key 0).2 none).new ⟨1,EN σ key 0 rows++[[.nil]]⟩)⟩:=by
 have hs:=h.sat.site _ _ _ e;subst hs;have r0:=H5 e;generalize hF:(λ t=>match t with|0=>((σ key 0).1,st.own.j8 (σ key 0).1)|i+1=>σ key (i+1):Nat->Nat × Nat)=F;have F0:F 0=((σ key 0).1,st.own.j8 (σ key 0).1):=by rw[<-hF]
 have F1 : ∀ i,F (i+1)=σ key (i+1):=by intro i;rw[<-hF]
 have tj:EN (FZ σ s F) s 0 (rows++[none])=EN σ key 0 rows++[[.nil]]:=by
  apply Sc;intro j;rw[JH,EG];rcases Bd j rows.length with hj|hj|hj
  ·rw[Nc hj,Nc (by rw[JI];exact hj),JH]
   congr 1;funext r
   cases r with
   | none=>rfl
   | some x=>simp only[uc];rw[F1]
  ·subst hj
   rw[Oc (Pc _),Oc (by rw[JI];exact Pc _),JI];simp
  ·rw[Hb W_,Hb (by simp [JI];omega)];rfl
 have Ct : ∀ j t c',b7 M j t=some c'->N4 s c'=false/\j≠s:=by
  intro j t c' g;obtain ⟨s1,c0,g1,g2,g3⟩:=LR g;obtain ⟨g4,g5⟩:=gW hm _ _ _ g1;refine ⟨?_,g4⟩;cases t with
  | zero=>rw[g2 rfl];exact g5
  | succ i=>obtain ⟨rows,z,es,_,_,rfl⟩:=g3 i rfl;rfl
 have hg : ∀ j t c,b7 ((s,(σ key 0).1,.mx (rows++[none]))::v8 key M) j t=some c ->
   (j=s/\t=0/\c = .mx (rows++[none]))\/(j=s/\t≠0/\b7 M key t=some c)\/(j≠s/\j≠key/\b7 M j t=some c):=by
  intro j t c g;by_cases hj:j=s
  ·subst hj
   cases t with
   | zero=>rw[bG]at g;exact Or.inl ⟨rfl,rfl,(Fb g).symm⟩
   | succ t =>
    simp only[b7,c7,Ed,cond_true]at g;rcases Bd t rows.length with zq|zq|zq
    ·rw[Nc zq]at g
     refine Or.inr (Or.inl ⟨rfl,D',?_⟩);simp only[b7,e];exact g
    ·subst zq
     rw[Oc (Pc _),vg]at g;simp at g
    ·rw[Hb W_]at g;cases g
  ·rw[SJ hj]at g
   obtain ⟨g1,g2⟩:=WA g;exact Or.inr (Or.inr ⟨hj,g1,g2⟩)
 refine ⟨λ j => ?_,⟨?_,?_,?_,?_,?_⟩⟩
 ·rw[uP (kP ht j)];exact h.tm j
 ·intro j s1 c g
  simp only[c7]at g;cases hb:Wa j s<;>simp only[hb,cond_true,cond_false]at g
  ·rw[E8 _ (JN.1 hb)];exact h.sat.site _ _ _ (XA g).2
  ·simp only[ka,oc]at g
   rw[DY.1 hb,EG,F0,<-g.1]
 ·intro j t c g
  rcases hg j t c g with ⟨rfl,rfl,rfl⟩|⟨rfl,h0,g2⟩|⟨h0,h1,g2⟩
  ·rw[EG,F0]
   simp only[C4.g8,tj];simp [BF.l9,EV.new,BF.j8,EV.v9]
  ·obtain ⟨t',rfl⟩ : ∃ t',t=t'+1:=⟨t-1,D'⟩
   rw[EG,F1];have hb:c.g8 (FZ σ j F) j=c.g8 σ key:=by
    obtain ⟨_,_,_,_,g3⟩:=LR g2;obtain ⟨_,_,_,_,_,rfl⟩:=g3 t' rfl;rfl
   rw[hb];exact (fY (λ he=>absurd (h.sat.inj _ _ _ _ _ _ g2 r0 he).2 D') (h.sat.old _ _ _ g2)).trans (h.sat.g8 _ _ _ g2)
  ·rw[E8 _ h0,qO (Ct _ _ _ g2).1 h0]
   exact (fY (λ he=>h1 (h.sat.inj _ _ _ _ _ _ g2 r0 he).1) (h.sat.old _ _ _ g2)).trans (h.sat.g8 _ _ _ g2)
 ·intro j t c g
  rcases hg j t c g with ⟨rfl,rfl,rfl⟩|⟨rfl,h0,g2⟩|⟨h0,h1,g2⟩
  ·rw[EG,F0]
   simp [BF.l9,EV.new,BF.j8,EV.v9]
  ·obtain ⟨t',rfl⟩ : ∃ t',t=t'+1:=⟨t-1,D'⟩
   rw[EG,F1];exact Qc (h.sat.old _ _ _ g2) (gB _)
  ·rw[E8 _ h0]
   exact Qc (h.sat.old _ _ _ g2) (gB _)
 ·have hold : ∀ j t c,b7 ((s,(σ key 0).1,.mx (rows++[none]))::v8 key M) j t=some c->(j=s/\t=0) \/ ∃ j0 t0 c0,b7 M j0 t0=some c0/\FZ σ s F j t=σ j0 t0/\((j0=key/\t0=t/\j=s)\/(j0=j/\t0=t/\j≠key)):=by
   intro j t c g;rcases hg j t c g with ⟨rfl,rfl,rfl⟩|⟨rfl,h0,g2⟩|⟨h0,h1,g2⟩
   ·exact Or.inl ⟨rfl,rfl⟩
   ·obtain ⟨t',rfl⟩ : ∃ t',t=t'+1:=⟨t-1,D'⟩
    exact Or.inr ⟨_,_,_,g2,by rw[EG,F1],Or.inl ⟨rfl,rfl,rfl⟩⟩
   ·exact Or.inr ⟨_,_,_,g2,by rw[E8 _ h0],Or.inr ⟨rfl,rfl,h1⟩⟩
  have yk : ∀ j0 t0 c0,b7 M j0 t0=some c0->FZ σ s F s 0≠σ j0 t0:=by
   intro j0 t0 c0 g he;rw[EG,F0]at he;have:=h.sat.old _ _ _ g
   rw[<-he]at this;exact absurd this (uf _)
  intro j t j' t' c c' g g' hj;rcases hold j t c g with ⟨rfl,rfl⟩|⟨j0,t0,c0,a1,a2,a3⟩<;>rcases hold j' t' c' g' with ⟨rfl,rfl⟩|⟨j1,t1,c1,b1,b2,b3⟩
  ·exact ⟨rfl,rfl⟩
  ·rw[b2]at hj;exact absurd hj (yk _ _ _ b1)
  ·rw[a2]at hj;exact absurd hj.symm (yk _ _ _ a1)
  ·rw[a2,b2]at hj
   obtain ⟨q1,q2⟩:=h.sat.inj _ _ _ _ _ _ a1 b1 hj;rcases a3 with ⟨x1,x2,x3⟩|⟨x1,x2,x3⟩<;>rcases b3 with ⟨y1,y2,y3⟩|⟨y1,y2,y3⟩
   ·exact ⟨x3.trans y3.symm,x2.symm.trans (q2.trans y2)⟩
   ·exact absurd (y1.symm.trans (q1.symm.trans x1)) y3
   ·exact absurd (x1.symm.trans (q1.trans y1)) x3
   ·exact ⟨x1.symm.trans (q1.trans y1),x2.symm.trans (q2.trans y2)⟩
 ·intro j t c g hw
  rcases hg j t c g with ⟨rfl,rfl,rfl⟩|⟨rfl,h0,g2⟩|⟨h0,h1,g2⟩
  ·rw[EG,F0];exact h.sat.low _ _ _ r0 rfl
  ·obtain ⟨t',rfl⟩ : ∃ t',t=t'+1:=⟨t-1,D'⟩
   rw[EG,F1];exact h.sat.low _ _ _ g2 hw
  ·rw[E8 _ h0];exact h.sat.low _ _ _ g2 hw
theorem wG {k:Nat} {v:AV} (h:WD k v=false):Y0 k v=false:=by
 cases v with
 | row j t z o n=>simp only[WD]at h;simp only[Y0,h,cond_false]
 | ptr j t a b=>simp only[WD]at h;simp only[Y0,h,cond_false]
 | _=>rfl
theorem lY {k:Nat} : ∀ {cs:d_},QA k cs=false->WX k cs=false
 | [],_=>rfl
 | c::r,h=>by
  simp only[QA]at h;cases h1:WD k c<;>simp only[h1,cond_true,cond_false]at h
  ·simp only[WX,wG h1,cond_false,lY h]
  ·cases h
theorem AcC {k:Nat} : ∀ {es:c_},dJ k es=false->jG k es=false
 | [],_=>rfl
 | c::r,h=>by
  simp only[dJ]at h;cases h1:QA k c<;>simp only[h1,cond_true,cond_false]at h
  ·simp only[jG,lY h1,cond_false,AcC h]
  ·cases h
theorem lX {k:Nat} {v:AV} (h:ZT k v=false):eJ k v=false:=by
 cases v with
 | agg cs=>exact lY h
 | fn p f g cs=>exact lY h
 | row a b c d e=>exact wG (v := .row a b c d e) h
 | ptr a b c d=>exact wG (v := .ptr a b c d) h
 | _=>rfl
theorem AcB {k:Nat} : ∀ {cs:d_},kO k cs=false->jF k cs=false
 | [],_=>rfl
 | c::r,h=>by
  simp only[kO]at h;cases h1:ZT k c<;>simp only[h1,cond_true,cond_false]at h
  ·simp only[jF,lX h1,cond_false,AcB h]
  ·cases h
theorem AkS {k:Nat} {v:AV} (h:WE k v=false):aB k v=false:=by
 cases v with
 | e9 cs=>exact AcB h
 | agg cs=>exact lX (v := .agg cs) h
 | fn p f g cs=>exact lX (v := .fn p f g cs) h
 | row a b c d e=>exact lX (v := .row a b c d e) h
 | ptr a b c d=>exact lX (v := .ptr a b c d) h
 | _=>rfl
theorem AcE {k:Nat} : ∀ {tm:Tm},N5 k tm=false->RC k tm=false
 | [],_=>rfl
 | (i,v)::r,h=>by
  simp only[N5]at h;cases h1:WE k v<;>simp only[h1,cond_true,cond_false]at h
  ·simp only[RC,AkS h1,cond_false,AcE h]
  ·cases h
theorem AcD {k:Nat} : ∀ {M:Mem},LW k M=false->OH k M=false
 | [],_=>rfl
 | (i,s,c)::r,h=>by
  simp only[LW]at h;cases h0:Wa k i<;>simp only[h0,cond_true,cond_false]at h
  ·cases h1:N4 k c<;>simp only[h1,cond_true,cond_false]at h
   ·have:WU k c=false:=by
     cases c with
     | bx cs=>exact lY h1
     | bs z es=>exact AcC h1
     | _=>rfl
    simp only[OH,this,cond_false,AcD h]
   ·cases h
  ·cases h
theorem RX.hid {M1 M2:Mem} (hm : ∀ k,c7 M1 k=c7 M2 k) (h:RX σ tm M1 st):RX σ tm M2 st:=by
 have hr : ∀ k t,b7 M1 k t=b7 M2 k t:=λ k t=>by simp only[b7,hm]
 refine ⟨h.tm,⟨λ k s c e => ?_,λ k t c e => ?_,λ k t c e => ?_,λ k t k' t' c c' e e' => ?_,λ k t c e hw => ?_⟩⟩
 ·rw[<-hm]at e;exact h.sat.site _ _ _ e
 ·rw[<-hr]at e;exact h.sat.g8 _ _ _ e
 ·rw[<-hr]at e;exact h.sat.old _ _ _ e
 ·rw[<-hr]at e e';exact h.sat.inj _ _ _ _ _ _ e e'
 ·rw[<-hr]at e;exact h.sat.low _ _ _ e hw
theorem RX.Avk (h:RX σ tm M st) {s q k2 s2 z:Nat} {es:c_} (e2:c7 M k2=some (s2,.rw z es)) (hk:s≠k2) (hm:LW s M=false) (ht:N5 s tm=false) (hq:IX q=true) :
  ∃ σ',σ' s 0=(q,st.own.j8 q)/\RX σ' tm ((s,q,.mx [some (z,es)])::v8 k2 M) ⟨st.tm,st.own.put q ((st.own q).new ⟨1,[[.row (σ k2 0).1 (σ k2 0).2 z 0 es.length]]⟩)⟩:=by
 have jk:C4.flat (.mx [none]):=by
  intro i x hx;cases i with
  | zero=>simp at hx
  | succ i=>simp at hx
 have h1:=h.pz (s:=s) (q:=q) hm ht (.mx [none]) jk rfl (λ_=>hq);have Le:c7 ((s,q,.mx [none])::M) k2=some (s2,.rw z es):=by
  simp only[c7,JN.2 (λ e=>hk e.symm),cond_false];exact e2
 have yc:OH s ((s,q,.mx [none])::M)=false:=by simp only[OH,WU,cond_false,AcD hm]
 have h2:=h1.Ox (k:=s) (s:=q) (k2:=k2) (i:=0) (rows:=[none]) (c0 := .mx [none]) (by simp [c7]) (Or.inl rfl) Le hk (AcE ht) yc p_;refine ⟨FZ σ s (λ t=>if t=0+1 then σ k2 0 else (q,st.own.j8 q)),?_,?_⟩
 ·rw[EG];simp
 ·have hσ:(FZ (FZ σ s λ_=>(q,st.own.j8 q)) s λ t=>if t=0+1 then (FZ σ s λ_=>(q,st.own.j8 q)) k2 0 else (FZ σ s λ_=>(q,st.own.j8 q)) s t)=FZ σ s (λ t=>if t=0+1 then σ k2 0 else (q,st.own.j8 q)):=by
   funext j t
   by_cases hj:j=s
   ·subst hj;rw[EG,EG];simp only[EG,E8 _ (λ e=>hk e.symm)]
   ·rw[E8 _ hj,E8 _ hj,E8 _ hj]
  rw[hσ]at h2;have hM:v8 k2 ((s,q,C4.mx [none])::M)=(s,q,.mx [none])::v8 k2 M:=by
   simp only[v8,JN.2 (λ e=>hk e.symm),cond_false]
  rw[hM]at h2;have ho : ∀ b b':HU,(st.own.put q ((st.own q).new b)).put q (((st.own.put q ((st.own q).new b)) q).v9 (st.own.j8 q) (some b'))=st.own.put q ((st.own q).new b'):=by
   intro b b';rw[BF.Bq,BF.l9];congr 1;simp only[EV.v9,EV.new,BF.j8,EV.mk.injEq,true_and];funext t'
   by_cases zq:t'=(st.own q).j8<;>simp [zq]
  have hn:(FZ σ s λ_=>(q,st.own.j8 q)) s 0=(q,st.own.j8 q):=by rw[EG]
  have pc:(FZ σ s λ_=>(q,st.own.j8 q)) k2=σ k2:=E8 _ (λ e=>hk e.symm);simp only[hn,pc]at h2;rw[ho]at h2;refine RX.hid (λ k => ?_) h2;simp only[c7];cases Wa k s<;>rfl
theorem RX.Ati (h:RX σ tm M st) {s key k2 ky s' s2 z:Nat} {rows:List (b_)} {es:c_} (e:c7 M key=some (s',.mx rows)) (e2:c7 M k2=some (s2,.rw z es)) (hk:key≠k2) (hm:LW s M=false) (ht:N5 s tm=false) :
  RX (FZ σ s λ t=>match t with|0=>(s',st.own.j8 s')|i+1=>if i=rows.length then σ k2 0 else σ key (i+1)) tm ((s,s',.mx (rows++[some (z,es)]))::v8 key (v8 k2 (v8 ky M)))
   ⟨st.tm,st.own.put s' (((st.own s').v9 (σ key 0).2 none).new ⟨1,EN σ key 0 rows++[[.row (σ k2 0).1 (σ k2 0).2 z 0 es.length]]⟩)⟩:=by
 have hs:=h.sat.site _ _ _ e;subst hs;have r0:=H5 e;have r2:=H5 e2;generalize hF:(λ t=>match t with|0=>((σ key 0).1,st.own.j8 (σ key 0).1)|i+1=>if i=rows.length then σ k2 0 else σ key (i+1):Nat->Nat × Nat)=F;have F0:F 0=((σ key 0).1,st.own.j8 (σ key 0).1):=by rw[<-hF]
 have F1 : ∀ i,F (i+1)=if i=rows.length then σ k2 0 else σ key (i+1):=by intro i;rw[<-hF]
 have tj:EN (FZ σ s F) s 0 (rows++[some (z,es)])=EN σ key 0 rows++[[.row (σ k2 0).1 (σ k2 0).2 z 0 es.length]]:=by
  apply Sc;intro j;rw[JH,EG];rcases Bd j rows.length with hj|hj|hj
  ·rw[Nc hj,Nc (by rw[JI];exact hj),JH]
   congr 1;funext r
   cases r with
   | none=>rfl
   | some x=>simp only[uc];rw[F1,if_neg D']
  ·subst hj
   rw[Oc (Pc _),Oc (by rw[JI];exact Pc _),JI];simp [F1]
  ·rw[Hb W_,Hb (by simp [JI];omega)];rfl
 have Ct : ∀ j t c',b7 M j t=some c'->N4 s c'=false/\j≠s:=by
  intro j t c' g;obtain ⟨s1,c0,g1,g2,g3⟩:=LR g;obtain ⟨g4,g5⟩:=gW hm _ _ _ g1;refine ⟨?_,g4⟩;cases t with
  | zero=>rw[g2 rfl];exact g5
  | succ i=>obtain ⟨rows,z,es,_,_,rfl⟩:=g3 i rfl;rfl
 have hg : ∀ j t c,b7 ((s,(σ key 0).1,.mx (rows++[some (z,es)]))::v8 key (v8 k2 (v8 ky M))) j t=some c ->
   (j=s/\t=0/\c = .mx (rows++[some (z,es)]))\/(j=s/\t=rows.length+1/\c = .rw z es)\/(j=s/\t≠0/\t≠rows.length+1/\b7 M key t=some c)\/(j≠s/\j≠key/\j≠k2/\b7 M j t=some c):=by
  intro j t c g;by_cases hj:j=s
  ·subst hj
   cases t with
   | zero=>rw[bG]at g;exact Or.inl ⟨rfl,rfl,(Fb g).symm⟩
   | succ t =>
    simp only[b7,c7,Ed,cond_true]at g;rcases Bd t rows.length with zq|zq|zq
    ·rw[Nc zq]at g
     refine Or.inr (Or.inr (Or.inl ⟨rfl,D',D',?_⟩));simp only[b7,e];exact g
    ·subst zq
     rw[Oc (Pc _),vg]at g;exact Or.inr (Or.inl ⟨rfl,rfl,(Fb g).symm⟩)
    ·rw[Hb W_]at g;cases g
  ·rw[SJ hj]at g
   obtain ⟨g1,g2⟩:=WA g;obtain ⟨g3,g4⟩:=WA g2;obtain ⟨_,g5⟩:=WA g4;exact Or.inr (Or.inr (Or.inr ⟨hj,g1,g3,g5⟩))
 refine ⟨λ j => ?_,⟨?_,?_,?_,?_,?_⟩⟩
 ·rw[uP (kP ht j)];exact h.tm j
 ·intro j s1 c g
  simp only[c7]at g;cases hb:Wa j s<;>simp only[hb,cond_true,cond_false]at g
  ·rw[E8 _ (JN.1 hb)];exact h.sat.site _ _ _ (XA (XA (XA g).2).2).2
  ·simp only[ka,oc]at g
   rw[DY.1 hb,EG,F0,<-g.1]
 ·intro j t c g
  rcases hg j t c g with ⟨rfl,rfl,rfl⟩|⟨rfl,rfl,rfl⟩|⟨rfl,h0,h1,g2⟩|⟨h0,h1,h2,g2⟩
  ·rw[EG,F0]
   simp only[C4.g8,tj];simp [BF.l9,EV.new,BF.j8,EV.v9]
  ·rw[EG,F1,if_pos rfl]
   exact (fY (λ he=>hk (h.sat.inj _ _ _ _ _ _ r2 r0 he).1.symm) (h.sat.old _ _ _ r2)).trans (h.sat.g8 _ _ _ r2)
  ·obtain ⟨t',rfl⟩ : ∃ t',t=t'+1:=⟨t-1,D'⟩
   rw[EG,F1,if_neg D'];have hb:c.g8 (FZ σ j F) j=c.g8 σ key:=by
    obtain ⟨_,_,_,_,g3⟩:=LR g2;obtain ⟨_,_,_,_,_,rfl⟩:=g3 t' rfl;rfl
   rw[hb];exact (fY (λ he=>absurd (h.sat.inj _ _ _ _ _ _ g2 r0 he).2 D') (h.sat.old _ _ _ g2)).trans (h.sat.g8 _ _ _ g2)
  ·rw[E8 _ h0,qO (Ct _ _ _ g2).1 h0]
   exact (fY (λ he=>h1 (h.sat.inj _ _ _ _ _ _ g2 r0 he).1) (h.sat.old _ _ _ g2)).trans (h.sat.g8 _ _ _ g2)
 ·intro j t c g
  rcases hg j t c g with ⟨rfl,rfl,rfl⟩|⟨rfl,rfl,rfl⟩|⟨rfl,h0,h1,g2⟩|⟨h0,h1,h2,g2⟩
  ·rw[EG,F0]
   simp [BF.l9,EV.new,BF.j8,EV.v9]
  ·rw[EG,F1,if_pos rfl]
   exact Qc (h.sat.old _ _ _ r2) (gB _)
  ·obtain ⟨t',rfl⟩ : ∃ t',t=t'+1:=⟨t-1,D'⟩
   rw[EG,F1,if_neg D'];exact Qc (h.sat.old _ _ _ g2) (gB _)
  ·rw[E8 _ h0]
   exact Qc (h.sat.old _ _ _ g2) (gB _)
 ·have hold : ∀ j t c,b7 ((s,(σ key 0).1,.mx (rows++[some (z,es)]))::v8 key (v8 k2 (v8 ky M))) j t=some c->(j=s/\t=0) \/ ∃ j0 t0 c0,b7 M j0 t0=some c0/\FZ σ s F j t=σ j0 t0/\((j0=k2/\t0=0/\j=s/\t=rows.length+1)\/(j0=key/\t0=t/\j=s)\/(j0=j/\t0=t/\j≠key/\j≠k2)):=by
   intro j t c g;rcases hg j t c g with ⟨rfl,rfl,rfl⟩|⟨rfl,rfl,rfl⟩|⟨rfl,h0,h1,g2⟩|⟨h0,h1,h2,g2⟩
   ·exact Or.inl ⟨rfl,rfl⟩
   ·exact Or.inr ⟨_,_,_,r2,by rw[EG,F1,if_pos rfl],Or.inl ⟨rfl,rfl,rfl,rfl⟩⟩
   ·obtain ⟨t',rfl⟩ : ∃ t',t=t'+1:=⟨t-1,D'⟩
    exact Or.inr ⟨_,_,_,g2,by rw[EG,F1,if_neg D'],Or.inr (Or.inl ⟨rfl,rfl,rfl⟩)⟩
   ·exact Or.inr ⟨_,_,_,g2,by rw[E8 _ h0],Or.inr (Or.inr ⟨rfl,rfl,h1,h2⟩)⟩
  have yk : ∀ j0 t0 c0,b7 M j0 t0=some c0->FZ σ s F s 0≠σ j0 t0:=by
   intro j0 t0 c0 g he;rw[EG,F0]at he;have:=h.sat.old _ _ _ g
   rw[<-he]at this;exact absurd this (uf _)
  intro j t j' t' c c' g g' hj;rcases hold j t c g with ⟨rfl,rfl⟩|⟨j0,t0,c0,a1,a2,a3⟩<;>rcases hold j' t' c' g' with ⟨rfl,rfl⟩|⟨j1,t1,c1,b1,b2,b3⟩
  ·exact ⟨rfl,rfl⟩
  ·rw[b2]at hj;exact absurd hj (yk _ _ _ b1)
  ·rw[a2]at hj;exact absurd hj.symm (yk _ _ _ a1)
  ·rw[a2,b2]at hj
   obtain ⟨q1,q2⟩:=h.sat.inj _ _ _ _ _ _ a1 b1 hj;rcases a3 with ⟨x1,x2,x3,x4⟩|⟨x1,x2,x3⟩|⟨x1,x2,x3,x4⟩<;>rcases b3 with ⟨y1,y2,y3,y4⟩|⟨y1,y2,y3⟩|⟨y1,y2,y3,y4⟩
   ·exact ⟨x3.trans y3.symm,x4.trans y4.symm⟩
   ·exact absurd (y1.symm.trans (q1.symm.trans x1)) hk
   ·exact absurd (y1.symm.trans (q1.symm.trans x1)) y4
   ·exact absurd (x1.symm.trans (q1.trans y1)) hk
   ·exact ⟨x3.trans y3.symm,x2.symm.trans (q2.trans y2)⟩
   ·exact absurd (y1.symm.trans (q1.symm.trans x1)) y3
   ·exact absurd (x1.symm.trans (q1.trans y1)) x4
   ·exact absurd (x1.symm.trans (q1.trans y1)) x3
   ·exact ⟨x1.symm.trans (q1.trans y1),x2.symm.trans (q2.trans y2)⟩
 ·intro j t c g hw
  rcases hg j t c g with ⟨rfl,rfl,rfl⟩|⟨rfl,rfl,rfl⟩|⟨rfl,h0,h1,g2⟩|⟨h0,h1,h2,g2⟩
  ·rw[EG,F0];exact h.sat.low _ _ _ r0 rfl
  ·rw[EG,F1,if_pos rfl];exact h.sat.low _ _ _ r2 rfl
  ·obtain ⟨t',rfl⟩ : ∃ t',t=t'+1:=⟨t-1,D'⟩
   rw[EG,F1,if_neg D'];exact h.sat.low _ _ _ g2 hw
  ·rw[E8 _ h0];exact h.sat.low _ _ _ g2 hw
theorem M3 (k:IntKind) (n:Int):DJ σ (.int k n) = .int k n:=rfl
theorem MX (b:Bool):DJ σ (.bool b) = .bool b:=rfl
theorem N6 (l:Bool) (es:c_):DJ σ (.sl l es) = .sl l es:=rfl
theorem HE (k t z o n:Nat):DJ σ (.row k t z o n) = .row (σ k t).1 (σ k t).2 z o n:=rfl
theorem IB (k t i j:Nat):DJ σ (.ptr k t i j) = .ptr (σ k t).1 (σ k t).2 i j:=rfl
theorem QD (cs:d_):DJ σ (.af cs) = .af cs:=rfl
theorem JZ:DJ σ .nil = .nil:=rfl
theorem NH (cs:d_):DJ σ (.agg cs) = .agg (cs.map (C3 σ)):=rfl
theorem ArZ (v:Value):DJ σ (.iz v) = .iz v:=rfl
theorem oO (p:Bool) (f g:Nat) (cs:d_):DJ σ (.fn p f g cs) = .fn p f g (cs.map (C3 σ)):=rfl
theorem QE (cs:d_):DJ σ (.e9 cs) = .e9 (cs.map (DM σ)):=rfl
def ET.res (own:BF):ET->AV × BF
 | .val v=>(v,own)
 | .new s b f=>(f (own.j8 s),own.put s ((own s).new b))
 | .Iz s b f=>(f (own.j8 s),own.put s ((own s).new b))
 | .kb v o=>(v,o)
 | .Kx s v o=>(v,o.put s (own s))
 | .v9 s x=>(.e9 [],own.put s x)
 | .Gw s x v=>(v,own.put s x)
theorem vY (st:St) (d:Option Nat) (E:ET):st.app d E=⟨(st.dst d (E.res st.own).1).tm,(E.res st.own).2⟩:=by
 cases E<;>cases d<;>rfl
def D5 (L:Lib) (tm:Tm) (b8:a_) (K:AV->Mem->Prop) (op:HO) (st:St):Prop :=
 ∃ E σ' v M',(∀ c,g7 (FA L c) b8 st.ev st.own op=some E)/\K v M'/\(E.res st.own).1=DJ σ' v/\RX σ' tm M' ⟨st.tm,(E.res st.own).2⟩
theorem D5.val {L:Lib} {b8:a_} {K:AV->Mem->Prop} {op:HO} (h:RX σ tm M st) (v:AV) (he : ∀ c,g7 (FA L c) b8 st.ev st.own op=some (.val (DJ σ v))) (hk:K v M):D5 L tm b8 K op st :=
 ⟨_,σ,v,M,he,hk,rfl,h⟩
variable {L:Lib} {b8:a_} {K:AV->Mem->Prop}
theorem Akk {x:BM} (hr:RX σ tm M st) (h:XE L tm M b8 K (.w9 x)):D5 L tm b8 K (.w9 x) st:=by
 simp only[XE]at h;obtain ⟨h1,h2⟩:=sD h;exact D5.val hr _ (λ C=>by simp only[g7,hr.ev rfl h1]) h2
theorem Akr {s z:Nat} (hr:RX σ tm M st) (h:XE L tm M b8 K (.bu s z)):D5 L tm b8 K (.bu s z) st:=by
 simp only[XE]at h;cases px:IX s<;>simp only[px,cond_true,cond_false]at h;obtain ⟨k,h1,h2,h3⟩:=N9 h;refine ⟨_,_,_,_,λ C=>rfl,h3,?_,hr.pz h1 h2 (.rw z []) trivial rfl (λ_=>px)⟩;simp only[ET.res,HE,IB,EG]
theorem Akl {c a b:BM} (hr:RX σ tm M st) (h:XE L tm M b8 K (.pick c a b)):D5 L tm b8 K (.pick c a b) st:=by
 simp only[XE]at h;split at h
 ·rename_i e
  obtain ⟨h1,h2⟩:=sD h;exact D5.val hr _ (λ C=>by simp only[g7,hr.ev e O_,hr.ev rfl h1,M3,MX,N6,HE,IB,QD,JZ,NH,QE]) h2
 ·rename_i e
  obtain ⟨h1,h2⟩:=sD h;exact D5.val hr _ (λ C=>by simp only[g7,hr.ev e O_,hr.ev rfl h1,M3,MX,N6,HE,IB,QD,JZ,NH,QE]) h2
 ·exact h.elim
theorem ApS {op:BinOp} {k k':IntKind} {a b:Int} {v:AV} (h:G5 op k a k' b=some v):DJ σ v=v:=by
 cases op<;>simp only[G5]at h<;>split at h<;>first|(obtain rfl:=Fb h;rfl)|cases h
theorem Aqo {k k':IntKind} (h:kq k k'=true):k=k':=by simpa [kq] using h
theorem AkJ {op:BinOp} {k k':IntKind} {a b:Int} {K:AV->Prop} (h:vZ op k a k' b K) : ∃ v,G5 op k a k' b=some v/\K v:=by
 have key : ∀ (p q:Prop) [Decidable p] (A B:Prop) (c:Bool),(¬ p->q)->A5 p q A B->(p/\A)\/(¬ p/\B):=by
  intro p q _ A B _ hq hc;by_cases hp:p
  ·exact Or.inl ⟨hp,hc.1 hp⟩
  ·exact Or.inr ⟨hp,hc.2 (hq hp)⟩
 cases op;all_goals try (exact h)
 all_goals (
  simp only[vZ]at h;cases hk:kq k k'<;>simp only[hk,cond_true,cond_false]at h;obtain rfl:=Aqo hk;simp only[G5,if_true])
 ·rcases key (a=b) _ _ _ true (λ e=>e) h with ⟨h1,h2⟩|⟨h1,h2⟩
  ·exact ⟨_,rfl,by rw[show (a == b)=true by simpa using h1];exact h2⟩
  ·exact ⟨_,rfl,by rw[show (a == b)=false by simpa using h1];exact h2⟩
 ·rcases key (a≠b) _ _ _ true (λ e=>D') h with ⟨h1,h2⟩|⟨h1,h2⟩
  ·exact ⟨_,rfl,by rw[show (a != b)=true by simpa using h1];exact h2⟩
  ·exact ⟨_,rfl,by rw[show (a != b)=false by simpa using h1];exact h2⟩
 ·rcases key (a<b) _ _ _ true (λ e=>D') h with ⟨h1,h2⟩|⟨h1,h2⟩
  ·exact ⟨_,rfl,by simpa [h1] using h2⟩
  ·exact ⟨_,rfl,by simpa [h1] using h2⟩
 ·rcases key (a<=b) _ _ _ true (λ e=>D') h with ⟨h1,h2⟩|⟨h1,h2⟩
  ·exact ⟨_,rfl,by simpa [h1] using h2⟩
  ·exact ⟨_,rfl,by simpa [h1] using h2⟩
 ·rcases key (b<a) _ _ _ true (λ e=>D') h with ⟨h1,h2⟩|⟨h1,h2⟩
  ·exact ⟨_,rfl,by simpa [h1] using h2⟩
  ·exact ⟨_,rfl,by simpa [h1] using h2⟩
 ·rcases key (b<=a) _ _ _ true (λ e=>D') h with ⟨h1,h2⟩|⟨h1,h2⟩
  ·exact ⟨_,rfl,by simpa [h1] using h2⟩
  ·exact ⟨_,rfl,by simpa [h1] using h2⟩
theorem Aj1 {op:BinOp} {x y:BM} (hr:RX σ tm M st) (h:XE L tm M b8 K (.bin op x y)):D5 L tm b8 K (.bin op x y) st:=by
 simp only[XE]at h;split at h
 ·rename_i k a k' b e1 e2
  obtain ⟨v,hv,hk⟩:=AkJ h;exact D5.val hr v (λ C=>by
   simp only[g7,hr.ev e1 O_,hr.ev e2 O_,M3,MX,N6,HE,IB,QD,JZ,NH,QE,hv,Wb];exact congrArg some (congrArg ET.val (ApS (σ:=σ) hv).symm)) hk
 ·exact h.elim
theorem Aj0 {ne:Bool} {x y:BM} (hr:RX σ tm M st) (h:XE L tm M b8 K (.beq ne x y)):D5 L tm b8 K (.beq ne x y) st:=by
 simp only[XE]at h;split at h
 ·rename_i a b e1 e2
  rw[ZC]at h;exact D5.val hr _ (λ C=>by
   simp only[g7,hr.ev e1 O_,hr.ev e2 O_,M3,MX,N6,HE,IB,QD,JZ,NH,QE];cases ne<;>rfl) h
 ·exact h.elim
theorem Yl : ∀ {cs:d_} {a:List Int},NN cs=some a->cs.map (C3 σ)=cs
 | [],_,_=>rfl
 | c::r,a,h=>by
  cases c with
  | int k n =>
   cases k<;>simp only[NN]at h<;>first|cases h|skip
   cases hr:NN r with
   | none=>rw[hr]at h;cases h
   | some b=>rw[ta,Yl hr];rfl
  | _=>simp only[NN]at h;cases h
theorem AjV {ne:Bool} {n:Nat} {x y:BM} (hr:RX σ tm M st) (h:XE L tm M b8 K (.Bu ne n x y)):D5 L tm b8 K (.Bu ne n x y) st:=by
 simp only[XE]at h;split at h
 ·rename_i cs ds e1 e2
  obtain ⟨a,b,h1,h2,h3,h4,h⟩:=h;rw[ZC]at h;exact D5.val hr _ (λ C=>by
   simp only[g7,hr.ev e1 O_,hr.ev e2 O_,NH,Yl h1,Yl h2,h1,h2];rw[if_pos ⟨h3,h4⟩];cases ne<;>rfl) h
 ·exact h.elim
theorem Akp {op:UnOp} {x:BM} (hr:RX σ tm M st) (h:XE L tm M b8 K (.un op x)):D5 L tm b8 K (.un op x) st:=by
 simp only[XE]at h;split at h
 ·rename_i k n e1
  obtain ⟨v,hv,hk⟩:=h;refine D5.val hr v (λ C => ?_) hk;simp only[g7,hr.ev e1 O_,M3,MX,N6,HE,IB,QD,JZ,NH,QE,hv,Wb];cases op<;>simp only[dR,ka,reduceCtorEq]at hv<;>subst hv<;>rfl
 ·rename_i b e1
  split at h
  ·rw[ZC]at h
   exact D5.val hr _ (λ C=>by simp only[g7,hr.ev e1 O_,M3,MX,N6,HE,IB,QD,JZ,NH,QE,dR,Wb]) h
  ·exact h.elim
 ·exact h.elim
theorem Aj6 {k:IntKind} {x:BM} (hr:RX σ tm M st) (h:XE L tm M b8 K (.conv k x)):D5 L tm b8 K (.conv k x) st:=by
 simp only[XE]at h;split at h
 ·rename_i k' n e1
  exact D5.val hr _ (λ C=>by simp only[g7,hr.ev e1 O_,M3,MX,N6,HE,IB,QD,JZ,NH,QE]) h.h
 ·exact h.elim
theorem Aj2 {s:Nat} {x:BM} (hr:RX σ tm M st) (h:XE L tm M b8 K (.box s x)):D5 L tm b8 K (.box s x) st:=by
 simp only[XE]at h;obtain ⟨h0,cs,hc,h⟩:=sC h;obtain ⟨k,h1,h2,h3⟩:=N9 h;refine ⟨.new s (C4.g8 σ k (.bx cs)) (λ t => .ptr s t 0 0),_,_,_,λ C => ?_,h3,?_,hr.pz h1 h2 (.bx cs) trivial (Agf (Aek h2 x) hc) (λ h=>nomatch h)⟩
 ·simp only[g7,hr.ev rfl h0,WT hc,xc,C4.g8]
 ·simp only[ET.res,HE,IB,EG]
theorem AjW {s:Nat} {z:d_} (hr:RX σ tm M st) (h:XE L tm M b8 K (.alloc s z)):D5 L tm b8 K (.alloc s z) st:=by
 simp only[XE]at h;cases hd:HR z<;>simp only[hd,cond_true,cond_false]at h;obtain ⟨k,h1,h2,h3⟩:=N9 h;refine ⟨.new s (C4.g8 σ k (.bx z)) (λ t => .ptr s t 0 0),_,_,_,λ C => ?_,h3,?_,hr.pz h1 h2 (.bx z) trivial (xD hd) (λ h=>nomatch h)⟩
 ·simp only[g7,C4.g8,OO hd]
 ·simp only[ET.res,HE,IB,EG]
theorem tK {cs ds:d_} {off n:Nat} (h:part cs off n=some ds):part (cs.map (C3 σ)) off n=some (ds.map (C3 σ)):=by
 simp only[part]at h ⊢;split at h
 ·rename_i hl
  rw[if_pos (by simpa using hl)];obtain rfl:=Fb h;rw[Te,Se]
 ·cases h
theorem Aem {v:AV} {K:AV->Prop} (h:fF v K):v ≠ .any/\DJ σ v=C3 σ v/\K v:=by
 cases v<;>simp only[fF]at h<;>first|exact h.elim|exact ⟨O_,rfl,h⟩
theorem ZN (σ:JF) {agg:Bool} {ds:d_} {K:AV->Prop} (h:Av agg ds K) : ∃ v,RH agg (ds.map (C3 σ))=some (DJ σ v)/\K v:=by
 cases agg
 ·simp only[Av]at h
  split at h
  ·rename_i c
   obtain ⟨_,h1,h2⟩:=Aem (σ:=σ) h;exact ⟨c,by rw[h1];rfl,h2⟩
  ·exact h.elim
 ·exact ⟨.agg ds,rfl,h⟩
theorem AgR {cs vs:d_} {j:Nat}:(splice cs j vs).map (C3 σ)=splice (cs.map (C3 σ)) j (vs.map (C3 σ)):=by
 simp only[splice,Hg,Te,Se,xc]
theorem Aet (hr:RX σ tm M st) : ∀ {ps:List (Nat × Nat × BM)} {cells:d_} {K:d_->Prop},zG tm ps cells K -> ∃ cs,fill (cells.map (C3 σ)) (ps.map λ p=>(p.1,p.2.1,st.ev p.2.2))=some (cs.map (C3 σ))/\K cs
 | [],cells,K,h=>⟨cells,rfl,h⟩
 | p::r,cells,K,h=>by
  obtain ⟨h0,vs,hc,h⟩:=sC (show fC (ex tm p.2.2) λ vs=>bif Wa vs.length p.2.1 then bif Ue (p.1+p.2.1) cells.length then fL (splice cells p.1 vs) λ cells=>zG tm r cells K else False else False from h);cases hz:Wa vs.length p.2.1<;>simp only[hz,cond_true,cond_false]at h;have hl:Ue (p.1+p.2.1) cells.length=true:=by
   cases hl:Ue (p.1+p.2.1) cells.length
   ·rw[hl]at h;exact h.elim
   ·rfl
  rw[hl]at h;simp only[cond_true,ME]at h;obtain ⟨cs,h1,h2⟩:=Aet hr h;refine ⟨cs,?_,h2⟩;simp only[ta,fill,hr.ev rfl h0,WT hc,xc];rw[if_pos ⟨DY.1 hz,ud hl⟩,<-AgR];exact h1
theorem Aj4 {z:d_} {ps:List (Nat × Nat × BM)} (hr:RX σ tm M st) (h:XE L tm M b8 K (.build z ps)):D5 L tm b8 K (.build z ps) st:=by
 simp only[XE]at h;cases hd:HR z<;>simp only[hd,cond_true,cond_false]at h;obtain ⟨cs,h1,h2⟩:=Aet hr h;refine D5.val hr (.agg cs) (λ C => ?_) h2;rw[OO hd]at h1;simp only[g7,h1];rfl
theorem Aej : ∀ l:List BM,aR tm l=l.map (ex tm)
 | []=>rfl
 | x::r=>by rw[aR,Aej r];rfl
theorem Ac3 : ∀ {es:c_},mF es=true -> ∀ e∈es,HR e=true
 | e0::r,h,e,he=>by
  simp only[mF]at h;cases h1:HR e0<;>simp only[h1,cond_true,cond_false]at h
  ·cases h
  ·rcases Gc.1 he with rfl|he
   ·exact h1
   ·exact Ac3 h e he
theorem AlQ {es:c_} (h : ∀ e∈es,HR e=true):(es.map λ cs=>cs.map (C3 σ))=es:=by
 conv=>rhs;rw[<-Rh es]
 exact ec λ e he=>OO (h e he)
theorem Aqw {es:c_} {K:Nat->Prop} (h:lnX es K):K es.length:=by
 unfold lnX at h;split at h<;>exact h
theorem Acz (hr:RX σ tm M st) {z:Nat} : ∀ {l:List BM} {K:c_->Prop},wC tm z l K -> ∃ es,l.mapM (λ x=>cellsOf (st.ev x))=some (es.map λ cs=>cs.map (C3 σ))/\(∀ e∈es,e.length=z)/\(∀ k,N5 k tm=false->dJ k es=false)/\K es
 | [],K,h=>⟨[],rfl,(λ e he=>by cases he),λ_ _=>rfl,h⟩
 | x::r,K,h=>by
  obtain ⟨h0,cs,hc,h⟩:=sC (show fC (ex tm x) λ cs=>bif Wa cs.length z then wC tm z r λ es=>K (cs::es) else False from h);cases hz:Wa cs.length z<;>simp only[hz,cond_true,cond_false]at h;obtain ⟨es,h1,h2,h4,h3⟩:=Acz hr h;refine ⟨cs::es,?_,λ e he => ?_,λ k hk => ?_,h3⟩
  ·rw[Gb,h1,hr.ev rfl h0,WT hc];rfl
  ·rcases Gc.1 he with rfl|he
   ·exact DY.1 hz
   ·exact h2 e he
  ·simp only[dJ,Agf (Aek hk x) hc,cond_false,h4 k hk]
theorem evL (hr:RX σ tm M st) {xs:List BM} (h : ∀ v∈aR tm xs,v ≠ .any):xs.map st.ev=(aR tm xs).map (DJ σ):=by
 rw[Aej]at h ⊢;rw[Gd];exact ec λ x hx=>hr.ev rfl (h _ (List.mem_map_of_mem hx))
theorem Aj3 {s z:Nat} {ps:List BM} (hr:RX σ tm M st) (h:XE L tm M b8 K (.c8 s z ps)):D5 L tm b8 K (.c8 s z ps) st:=by
 simp only[XE]at h;cases px:IX s<;>simp only[px,cond_true,cond_false]at h;obtain ⟨es,g1,g2,g3,h⟩:=Acz hr h;obtain ⟨k,h1,h2,h3⟩:=N9 (Aqw h);have key : ∀ c:C4,c.flat->N4 k c=false->c.g8 σ k=⟨z,es.map λ cs=>cs.map (C3 σ)⟩->K (.row k 0 z 0 es.length) ((k,s,c)::M)->D5 L tm b8 K (.c8 s z ps) st:=by
  intro c hf hc hb hk;refine ⟨.new s (c.g8 σ k) (λ t => .row s t z 0 es.length),_,_,_,λ C => ?_,hk,?_,hr.pz h1 h2 c hf hc (λ_=>px)⟩
  ·simp only[g7,g1,hb]
   rw[if_pos (λ e he=>by obtain ⟨e',qu,rfl⟩:=Od.1 he;simpa using g2 e' qu)];simp only[xc]
  ·simp only[ET.res,HE,EG]
 cases hd:mF es<;>simp only[hd,cond_true,cond_false]at h3
 ·exact key (.bs z es) trivial (g3 k h2) rfl h3
 ·exact key (.rw z es) trivial rfl (by simp only[C4.g8];rw[AlQ (Ac3 hd)]) h3
theorem Aj8 {x:BM} {off:Nat} (hr:RX σ tm M st) (h:XE L tm M b8 K (.dj x off)):D5 L tm b8 K (.dj x off) st:=by
 simp only[XE]at h;split at h
 ·rename_i key t i j e
  exact D5.val hr _ (λ C=>by simp only[g7,hr.ev e O_,M3,MX,N6,HE,IB,QD,JZ,NH,QE]) h
 ·rename_i cs e
  rw[ME]at h;exact D5.val hr _ (λ C=>by simp only[g7,hr.ev e O_,M3,MX,N6,HE,IB,QD,JZ,NH,QE]) h
 ·exact h.elim
theorem Aj9 {x:BM} {off n:Nat} {agg:Bool} (hr:RX σ tm M st) (h:XE L tm M b8 K (.zf x off n agg)):D5 L tm b8 K (.zf x off n agg) st:=by
 simp only[XE]at h;split at h
 ·rename_i cs e
  split at h
  ·rename_i ds hp
   rw[ME]at h;obtain ⟨v,h1,h2⟩:=ZN σ h;exact D5.val hr v (λ C=>by simp only[g7,hr.ev e O_,NH,tK hp,h1,Wb]) h2
  ·exact h.elim
 ·exact h.elim
theorem Akb {arr:Option Nat} {z:Nat} {x i:BM} (hr:RX σ tm M st) (h:XE L tm M b8 K (.cp arr z x i)):D5 L tm b8 K (.cp arr z x i) st:=by
 simp only[XE]at h;split at h
 ·rename_i kd n e1
  split at h
  ·rename_i len key t i' j e2
   obtain ⟨h1,h2⟩:=h;exact D5.val hr _ (λ C=>by simp only[g7,hr.ev e1 O_,hr.ev e2 O_,M3,MX,N6,HE,IB,QD,JZ,NH,QE];rw[if_pos h1]) h2
  ·rename_i len cs e2
   obtain ⟨h1,h2⟩:=h;rw[ME]at h2;exact D5.val hr _ (λ C=>by simp only[g7,hr.ev e1 O_,hr.ev e2 O_,M3,MX,N6,HE,IB,QD,JZ,NH,QE];rw[if_pos h1]) h2
  ·rename_i key t z' off len e2
   cases hz:Wa z' z<;>simp only[hz,cond_true,cond_false]at h;obtain ⟨h1,h2⟩:=h;exact D5.val hr _ (λ C=>by simp only[g7,hr.ev e1 O_,hr.ev e2 O_,M3,MX,N6,HE,IB,QD,JZ,NH,QE];rw[if_pos ⟨h1.1,h1.2,DY.1 hz⟩]) h2
  ·rename_i q es e2
   obtain ⟨h1,cs,h2,h3,h4⟩:=h;exact D5.val hr _ (λ C=>by simp only[g7,hr.ev e1 O_,hr.ev e2 O_,M3,MX,N6,HE,IB,QD,JZ,NH,QE,h2];rw[if_pos h1,if_pos h3]) h4
  ·exact h.elim
 ·exact h.elim
theorem kH {s:Nat} {own:BF} : ∀ {b8:a_},bR s b8=true->own.o5 b8 s=own s
 | [],_=>rfl
 | b::r,h=>by
  have hm:RG s (b::r)=false:=by simpa [bR] using h
  have : ∀ l:a_,RG s l=false->own.o5 l s=own s:=by
   intro l;induction l with
   | nil=>intro _;rfl
   | cons b r ih =>
    intro h;simp only[RG]at h;cases hb:Wa s b<;>simp only[hb,cond_true,cond_false]at h
    ·simp only[BF.o5]
     rw[if_neg (JN.1 hb)];exact ih h
    ·cases h
  exact this _ hm
theorem Xu {s:Nat} {own:BF} (hs:IX s=true) : ∀ {b8:a_},gF b8=true->own.o5 b8 s=own s
 | [],_=>rfl
 | b::r,h=>by
  simp only[gF]at h;cases hb:IX b<;>simp only[hb,cond_true,cond_false]at h
  ·have n6:s≠b:=λ e=>by rw[e,hb]at hs;cases hs
   show (if s=b then _ else own.o5 r s)=own s;rw[if_neg n6];exact Xu hs h
  ·cases h
theorem Akd {agg:Bool} {n:Nat} {x:BM} (hr:RX σ tm M st) (h:XE L tm M b8 K (.ld agg n x)):D5 L tm b8 K (.ld agg n x) st:=by
 simp only[XE]at h;split at h
 ·rename_i key t i j e
  split at h
  ·rename_i s c hm
   have hs:=hr.sat.site _ _ _ hm;split at h
   ·cases hb:bR s b8<;>simp only[hb,cond_true,cond_false]at h
    have gk:=hr.sat.g8 _ _ _ (H5 hm);rw[hs]at gk;split at h
    ·rename_i cs
     cases hi:Wa i 0<;>simp only[hi,cond_true,cond_false]at h;obtain rfl:=DY.1 hi;split at h
     ·rename_i ds hp
      rw[ME]at h;obtain ⟨v,h1,h2⟩:=ZN σ h;exact D5.val hr v (λ C=>by
       simp only[g7,hr.ev e O_,IB,BF.As,BF.get,hs];rw[kH hb,gk];simp only[C4.g8,Je,tK hp,h1,Wb]) h2
     ·exact h.elim
    ·rename_i z es
     obtain ⟨cs,ds,g1,g2,h⟩:=h;rw[ME]at h;cases hd:HR ds<;>simp only[hd,cond_true,cond_false]at h;obtain ⟨v,h1,h2⟩:=ZN σ h;rw[OO hd]at h1;exact D5.val hr v (λ C=>by
      simp only[g7,hr.ev e O_,IB,BF.As,BF.get,hs];rw[kH hb,gk];simp only[C4.g8,g1,g2,h1,Wb]) h2
    ·rename_i z es
     split at h
     ·rename_i cs g1
      split at h
      ·rename_i ds hp
       rw[ME]at h;obtain ⟨v,h1,h2⟩:=ZN σ h;exact D5.val hr v (λ C=>by
        simp only[g7,hr.ev e O_,IB,BF.As,BF.get,hs];rw[kH hb,gk];simp only[C4.g8,Uc,g1,Wb,tK hp,h1]) h2
      ·exact h.elim
     ·exact h.elim
    ·rename_i rows
     cases hj:Wa j 0<;>simp only[hj,cond_true,cond_false]at h;cases hn:Wa n 1<;>simp only[hn,cond_true,cond_false]at h;obtain rfl:=DY.1 hj;obtain rfl:=DY.1 hn;obtain ⟨r,g1,h⟩:=h;have fin : ∀ c:AV,(EN σ key 0 rows)[i]? = some [C3 σ c]->Av agg [c] (λ v=>K v M)->D5 L tm b8 K (.ld agg 1 x) st:=by
      intro c hc h;obtain ⟨v,h1,h2⟩:=ZN σ h;have hp:part [C3 σ c] 0 1=some [C3 σ c]:=by simp [part]
      exact D5.val hr v (λ C=>by
       simp only[g7,hr.ev e O_,IB,BF.As,BF.get,hs];rw[kH hb,gk];simp only[C4.g8,hc,hp];simp only[ta,xd]at h1;simp only[h1,Wb]) h2
     split at h
     ·rename_i z es
      exact fin _ (by rw[JH,g1];simp [C3]) h
     ·exact fin _ (by rw[JH,g1];simp [C3]) h
    ·exact h.elim
    ·exact h.elim
   ·rename_i i'
    split at h
    ·rename_i rows
     obtain ⟨z,es,g0,cs,ds,g1,g2,h⟩:=h;rw[ME]at h;cases hd:HR ds<;>simp only[hd,cond_true,cond_false]at h;obtain ⟨v,h1,h2⟩:=ZN σ h;rw[OO hd]at h1;have gk:=hr.sat.g8 key (i'+1) (.rw z es) (by simp [b7,hm,g0]);exact D5.val hr v (λ C=>by
      simp only[g7,hr.ev e O_,IB,BF.As,BF.get,BF.o5];rw[gk];simp only[C4.g8,g1,g2,h1,Wb]) h2
    ·rename_i rows b r
     cases hb:gF (b::r)<;>simp only[hb,cond_true,cond_false]at h;obtain ⟨z,es,g0,cs,ds,g1,g2,h⟩:=h;rw[ME]at h;cases hd:HR ds<;>simp only[hd,cond_true,cond_false]at h;obtain ⟨v,h1,h2⟩:=ZN σ h;rw[OO hd]at h1;have g':b7 M key (i'+1)=some (.rw z es):=by simp [b7,hm,g0]
     have gk:=hr.sat.g8 key (i'+1) (.rw z es) g';have px:=hr.sat.low key (i'+1) _ g' rfl;exact D5.val hr v (λ C=>by
      simp only[g7,hr.ev e O_,IB,BF.As,BF.get];rw[Xu px hb,gk];simp only[C4.g8,g1,g2,h1,Wb]) h2
    ·exact h.elim
  ·exact h.elim
 ·rename_i cs e
  split at h
  ·rename_i ds hp
   rw[ME]at h;cases hd:HR ds<;>simp only[hd,cond_true,cond_false]at h;obtain ⟨v,h1,h2⟩:=ZN σ h;rw[OO hd]at h1;exact D5.val hr v (λ C=>by simp only[g7,hr.ev e O_,QD,hp,h1,Wb]) h2
  ·exact h.elim
 ·exact h.elim
theorem Ake {agg:Bool} {n:Nat} {x:BM} (hr:RX σ tm M st) (h:XE L tm M b8 K (.Cz agg n x)):D5 L tm b8 K (.Cz agg n x) st:=by
 simp only[XE]at h;split at h
 ·rename_i cs e
  split at h
  ·rename_i ds hp
   rw[ME]at h;cases hd:HR ds<;>simp only[hd,cond_true,cond_false]at h;obtain ⟨v,h1,h2⟩:=ZN σ h;rw[OO hd]at h1;exact D5.val hr v (λ C=>by simp only[g7,hr.ev e O_,QD,hp,h1,Wb]) h2
  ·exact h.elim
 ·exact h.elim
theorem Acd {n:Nat} {x v:BM} (hr:RX σ tm M st) (h:XE L tm M b8 K (.st n x v)):D5 L tm b8 K (.st n x v) st:=by
 simp only[XE,stX]at h;split at h
 ·rename_i key t i j e
  obtain ⟨h0,vs,hc,h5⟩:=sC h;clear h;cases hn:Wa vs.length n<;>simp only[hn,cond_true,cond_false]at h5;have zo:=DY.1 hn;split at h5
  ·rename_i s c hm
   have hs:=hr.sat.site _ _ _ hm;split at h5
   ·have gk:=hr.sat.g8 _ _ _ (H5 hm)
    rw[hs]at gk;split at h5
    ·rename_i cs
     cases hi:Wa i 0<;>simp only[hi,cond_true,cond_false]at h5;obtain rfl:=DY.1 hi;have hl:Ue (j+vs.length) cs.length=true:=by
      cases hl:Ue (j+vs.length) cs.length
      ·rw[hl]at h5;exact h5.elim
      ·rfl
     rw[hl]at h5;simp only[cond_true,ME]at h5;refine ⟨.kb (.e9 []) (st.own.put s ((st.own s).v9 (σ key 0).2 (some (C4.g8 σ key (.bx (splice cs j vs)))))),σ,_,_,λ C => ?_,h5,rfl,hr.stq hm trivial _ trivial (λ h=>nomatch h)⟩;simp only[g7,hr.ev e O_,IB,hr.ev rfl h0,WT hc,xc];rw[if_pos zo];simp only[BF.wg,BF.get,hs,gk,C4.g8,Je,xc];rw[if_pos (ud hl)];simp only[Wb,List.set_cons_zero,AgR];have:(splice cs j vs).length=cs.length:=by
      have:=ud hl
      simp only[splice,List.length_append,Qd,List.length_drop];omega
     rw[this]
    ·rename_i z es
     cases hd:HR vs<;>simp only[hd,cond_true,cond_false]at h5;obtain ⟨cs,g1,g2,h5⟩:=h5;refine ⟨.kb (.e9 []) (st.own.put s ((st.own s).v9 (σ key 0).2 (some (C4.g8 σ key (.rw z (es.set i (splice cs j vs))))))),σ,_,_,λ C => ?_,h5,rfl,hr.stq hm trivial _ trivial (λ_=>rfl)⟩;simp only[g7,hr.ev e O_,IB,hr.ev rfl h0,WT hc,OO hd];rw[if_pos zo];simp only[BF.wg,BF.get,hs,gk,C4.g8,g1];rw[if_pos g2];rfl
    ·exact h5.elim
    ·rename_i rows
     split at h5
     ·rename_i dz z m
      cases na:Wa key dz<;>simp only[na,cond_true,cond_false]at h5;cases iw:RC key tm<;>simp only[iw,cond_true,cond_false]at h5;cases yc:OH key M<;>simp only[yc,cond_true,cond_false]at h5;cases hj:Wa j 0<;>simp only[hj,cond_true,cond_false]at h5;obtain rfl:=DY.1 hj;split at h5
      ·rename_i s2 z' es pd
       cases hz:Wa z z'<;>simp only[hz,cond_true,cond_false]at h5;obtain rfl:=DY.1 hz;rw[ZE]at h5;obtain ⟨rfl,hi,h5⟩:=h5;have hlen:(EN σ key 0 rows)[i]? = some ((EN σ key 0 rows)[i]'(by rw[JI];exact hi)):=zE _;have py:((EN σ key 0 rows)[i]'(by rw[JI];exact hi)).length=1:=by
        have:=JH (σ:=σ) (k:=key) rows 0 i
        rw[hlen,zE hi]at this;simp only[Wb,ka]at this;rw[this];split<;>rfl
       refine ⟨.kb (.e9 []) (st.own.put s ((st.own s).v9 (σ key 0).2 (some ⟨1,(EN σ key 0 rows).set i [.row (σ dz 0).1 (σ dz 0).2 z 0 es.length]⟩))),_,_,_,λ C => ?_,h5,rfl,hr.Ox hm (Or.inl rfl) pd (JN.1 na) iw yc hi⟩;simp only[g7,hr.ev e O_,IB,hr.ev rfl h0,WT hc,xc];rw[if_pos zo];simp only[BF.wg,BF.get,hs,gk,C4.g8,hlen,ta,xd,Wc,Cc,C3];rw[if_pos D'];simp only[Wb];have Uq:splice ((EN σ key 0 rows)[i]'(by rw[JI];exact hi)) 0 [.row (σ dz 0).1 (σ dz 0).2 z 0 es.length]=[.row (σ dz 0).1 (σ dz 0).2 z 0 es.length]:=by
        simp only[splice,Gf,ve,Wc,Cc,uc];rw[Cb D'];rfl
       rw[Uq]
      ·exact h5.elim
     ·rename_i dz t2 z m
      cases na:Wa key dz<;>simp only[na,cond_true,cond_false]at h5;cases hj:Wa j 0<;>simp only[hj,cond_true,cond_false]at h5;obtain rfl:=DY.1 hj;obtain rfl:=DY.1 na;obtain ⟨z',es,g0,h5⟩:=h5;cases hz:Wa z z'<;>simp only[hz,cond_true,cond_false]at h5;obtain rfl:=DY.1 hz;obtain ⟨⟨rfl,hi⟩,h5⟩:=h5;have ag:C4.g8 σ key (.vw ((He rows.length).set i t2) rows)=⟨1,(EN σ key 0 rows).set i [.row (σ key (t2+1)).1 (σ key (t2+1)).2 z 0 es.length]⟩:=by
       simp only[C4.g8];congr 1;apply Sc;intro p;rw[Uc];by_cases hp:i=p
       ·subst hp
        rw[Eb (by rw[Kg];exact hi),Eb (by rw[JI];exact hi),Wb,JH,g0];simp
       ·rw[fc hp,fc hp,JH]
        by_cases Jx:p<rows.length
        ·rw[Sd Jx,Wb,JH,zE Jx,Wb,Ve]
        ·rw[Hb (by rw[Kg];omega),Hb D'];rfl
      have hv:=hr.view (w:=(He rows.length).set i t2) hm (Or.inl rfl);have hlen:(EN σ key 0 rows)[i]? = some ((EN σ key 0 rows)[i]'(by rw[JI];exact hi)):=zE _;have py:((EN σ key 0 rows)[i]'(by rw[JI];exact hi)).length=1:=by
       have:=JH (σ:=σ) (k:=key) rows 0 i
       rw[hlen,zE hi]at this;simp only[Wb,ka]at this;rw[this];split<;>rfl
      refine ⟨.kb (.e9 []) (st.own.put s ((st.own s).v9 (σ key 0).2 (some (C4.g8 σ key (.vw ((He rows.length).set i t2) rows))))),_,_,_,λ C => ?_,h5,rfl,hv⟩;rw[ag];simp only[g7,hr.ev e O_,IB,hr.ev rfl h0,WT hc,xc];rw[if_pos zo];simp only[BF.wg,BF.get,hs,gk,C4.g8,hlen,ta,xd,Wc,Cc,C3];rw[if_pos D'];simp only[Wb];have Uq:splice ((EN σ key 0 rows)[i]'(by rw[JI];exact hi)) 0 [.row (σ key (t2+1)).1 (σ key (t2+1)).2 z 0 es.length]=[.row (σ key (t2+1)).1 (σ key (t2+1)).2 z 0 es.length]:=by
       simp only[splice,Gf,ve,Wc,Cc,uc];rw[Cb D'];rfl
      rw[Uq]
     ·exact h5.elim
    ·rename_i i0 v0 rows
     split at h5
     ·rename_i dz z m
      cases na:Wa key dz<;>simp only[na,cond_true,cond_false]at h5;cases iw:RC key tm<;>simp only[iw,cond_true,cond_false]at h5;cases yc:OH key M<;>simp only[yc,cond_true,cond_false]at h5;cases hj:Wa j 0<;>simp only[hj,cond_true,cond_false]at h5;obtain rfl:=DY.1 hj;split at h5
      ·rename_i s2 z' es pd
       cases hz:Wa z z'<;>simp only[hz,cond_true,cond_false]at h5;obtain rfl:=DY.1 hz;rw[ZE]at h5;obtain ⟨⟨rfl,rfl⟩,hi,h5⟩:=h5;refine ⟨.kb (.e9 []) (st.own.put s ((st.own s).v9 (σ key 0).2 (some ⟨1,(EN σ key 0 rows).set i [.row (σ dz 0).1 (σ dz 0).2 z 0 es.length]⟩))),_,_,_,λ C => ?_,h5,rfl,hr.Ox hm (Or.inr ⟨v0,rfl⟩) pd (JN.1 na) iw yc hi⟩;simp only[g7,hr.ev e O_,IB,hr.ev rfl h0,WT hc,xc];rw[if_pos zo];simp only[BF.wg,BF.get,hs,gk,C4.g8,Eb (show i<(EN σ key 0 rows).length by rw[JI];exact hi),ta,xd,Wc,Cc,C3];rw[if_pos D'];simp only[Wb,List.set_set];rfl
      ·exact h5.elim
     ·exact h5.elim
    ·rename_i w rows
     split at h5
     ·rename_i dz t2 z m
      cases na:Wa key dz<;>simp only[na,cond_true,cond_false]at h5;cases hj:Wa j 0<;>simp only[hj,cond_true,cond_false]at h5;obtain rfl:=DY.1 hj;obtain rfl:=DY.1 na;obtain ⟨z',es,g0,h5⟩:=h5;cases hz:Wa z z'<;>simp only[hz,cond_true,cond_false]at h5;obtain rfl:=DY.1 hz;obtain ⟨⟨rfl,hi,An⟩,h5⟩:=h5;have ag:C4.g8 σ key (.vw (w.set i t2) rows)=⟨1,(w.map λ t=>((EN σ key 0 rows)[t]?).getD []).set i [.row (σ key (t2+1)).1 (σ key (t2+1)).2 z 0 es.length]⟩:=by
       simp only[C4.g8];congr 1;apply Sc;intro p;rw[Uc];by_cases hp:i=p
       ·subst hp
        rw[Eb hi,Eb (by rw[xc];exact hi),Wb,JH,g0];simp
       ·rw[fc hp,fc hp,Uc]
      have hv:=hr.view (w:=w.set i t2) hm (Or.inr ⟨w,rfl⟩);have hlen:(w.map λ t=>((EN σ key 0 rows)[t]?).getD [])[i]? = some ((w.map λ t=>((EN σ key 0 rows)[t]?).getD [])[i]'(by rw[xc];exact hi)):=zE _;have py:((w.map λ t=>((EN σ key 0 rows)[t]?).getD [])[i]'(by rw[xc];exact hi)).length=1:=by
       rw[List.getElem_map];have n7:=An w[i] (List.getElem_mem hi);rw[JH,zE n7];simp only[Wb,Ve];split<;>rfl
      refine ⟨.kb (.e9 []) (st.own.put s ((st.own s).v9 (σ key 0).2 (some (C4.g8 σ key (.vw (w.set i t2) rows))))),_,_,_,λ C => ?_,h5,rfl,hv⟩;rw[ag];simp only[g7,hr.ev e O_,IB,hr.ev rfl h0,WT hc,xc];rw[if_pos zo];simp only[BF.wg,BF.get,hs,gk,C4.g8,hlen,ta,xd,Wc,Cc,C3];rw[if_pos D'];simp only[Wb];have Uq:splice ((w.map λ t=>((EN σ key 0 rows)[t]?).getD [])[i]'(by rw[xc];exact hi)) 0 [.row (σ key (t2+1)).1 (σ key (t2+1)).2 z 0 es.length]=[.row (σ key (t2+1)).1 (σ key (t2+1)).2 z 0 es.length]:=by
       simp only[splice,Gf,ve,Wc,Cc,uc];rw[Cb D'];rfl
      rw[Uq]
     ·exact h5.elim
   ·rename_i i'
    split at h5
    ·rename_i rows
     cases hd:HR vs<;>simp only[hd,cond_true,cond_false]at h5;obtain ⟨z,es,g0,cs,g1,g2,g3,h5⟩:=h5;have gk:=hr.sat.g8 key (i'+1) (.rw z es) (by simp [b7,hm,g0]);refine ⟨.kb (.e9 []) (st.own.put (σ key (i'+1)).1 ((st.own (σ key (i'+1)).1).v9 (σ key (i'+1)).2 (some ⟨z,es.set i (splice cs j vs)⟩))),σ,_,_,λ C => ?_,h5,rfl,hr.Avm hm g0 g3⟩;simp only[g7,hr.ev e O_,IB,hr.ev rfl h0,WT hc,OO hd];rw[if_pos zo];simp only[BF.wg,BF.get,gk,C4.g8,g1];rw[if_pos g2];rfl
    ·exact h5.elim
  ·exact h5.elim
 ·exact h.elim
theorem Akg {s z bytes:Nat} {zero:d_} {a c:BM} (hr:RX σ tm M st) (h:XE L tm M b8 K (.mk s z bytes zero a c)):D5 L tm b8 K (.mk s z bytes zero a c) st:=by
 simp only[XE]at h;split at h
 ·rename_i k1 p k2 q e1 e2
  cases hz:Wa zero.length z<;>simp only[hz,cond_true,cond_false]at h;cases hd:HR zero<;>simp only[hd,cond_true,cond_false]at h;split at h
  ·cases px:IX s<;>simp only[px,cond_true,cond_false]at h
   obtain ⟨⟨g1,g2,g3,g4⟩,h⟩:=h;obtain ⟨k,h1,h2,h3⟩:=N9 h;have jk:C4.flat (.mx (Ub p.toNat none)):=by
    intro i x hx;have:=Ke (n:=p.toNat) (a:=(none:b_)) (i:=i)
    rw[this]at hx;split at hx<;>cases hx
   have nj:z=1:=(DY.1 hz).symm;have ue:C4.g8 σ k (.mx (Ub p.toNat none))=⟨z,Ub p.toNat [.nil]⟩:=by
    simp only[C4.g8,nj];congr 1;have : ∀ (n i:Nat),EN σ k i (Ub n none)=Ub n [AV.nil]:=by
     intro n;induction n with
     | zero=>intro i;rfl
     | succ n ih=>intro i;rw[Td,Td,EN,ih]
    exact this _ _
   refine ⟨.new s (C4.g8 σ k (.mx (Ub p.toNat none))) (λ t => .row s t z 0 p.toNat),_,_,_,λ C => ?_,h3,?_,hr.pz h1 h2 (.mx _) jk rfl (λ_=>px)⟩
   ·simp only[g7,hr.ev e1 O_,hr.ev e2 O_,M3,ue]
    rw[if_pos ⟨g1,g2,g3,g4,DY.1 hz⟩]
   ·simp only[ET.res,HE,EG]
  ·cases px:IX s<;>simp only[px,cond_true,cond_false]at h
   obtain ⟨⟨g1,g2,g3,g4⟩,h⟩:=h;obtain ⟨k,h1,h2,h3⟩:=N9 h;refine ⟨.new s ⟨z,Ub p.toNat zero⟩ (λ t => .row s t z 0 p.toNat),_,_,_,λ C => ?_,h3,?_,hr.pz h1 h2 (.rw z _) trivial rfl (λ_=>px)⟩
   ·simp only[g7,hr.ev e1 O_,hr.ev e2 O_,M3]
    rw[if_pos ⟨g1,g2,g3,g4,DY.1 hz⟩]
   ·simp only[ET.res,HE,EG]
 ·exact h.elim
theorem Ael {v:AV} {K:AV->Prop} (h:f2 v K):v ≠ .any/\DJ σ v=DM σ v/\K v:=by
 cases v<;>simp only[f2,ME]at h<;>first|exact h.elim|exact ⟨O_,rfl,h⟩
theorem Ae5 : ∀ (vs:d_) (i:Nat),Is vs i ≠ .any->vs[i]? = some (Is vs i)
 | [],_,h=>absurd rfl h
 | _::_,0,_=>rfl
 | _::r,i+1,h=>Ae5 r i h
theorem Aj7 {x:BM} {i:Nat} (hr:RX σ tm M st) (h:XE L tm M b8 K (.ext x i)):D5 L tm b8 K (.ext x i) st:=by
 simp only[XE]at h;split at h
 ·rename_i vs e
  obtain ⟨h1,h2,h3⟩:=Ael (σ:=σ) h;refine D5.val hr _ (λ C => ?_) h3;simp only[g7,hr.ev e O_,QE,Uc,Ae5 vs i h1,Wb,h2]
 ·exact h.elim
theorem Akf {x:BM} (hr:RX σ tm M st) (h:XE L tm M b8 K (.len x)):D5 L tm b8 K (.len x) st:=by
 simp only[XE]at h;split at h
 ·rename_i q es e
  exact D5.val hr _ (λ C=>by simp only[g7,hr.ev e O_,N6,ZI];rfl) h.h
 ·rename_i e
  exact D5.val hr _ (λ C=>by simp only[g7,hr.ev e O_,JZ,ZI];rfl) h
 ·rename_i e
  exact D5.val hr _ (λ C=>by simp only[g7,hr.ev e O_,HE,ZI];rfl) h
 ·exact h.elim
theorem Aft {mx:Bool} {k:IntKind} {K:AV->Prop} : ∀ {l:d_} {a:Int},gE mx k K a l -> ∃ n,SI mx (.int k a) l=some (.int k n)/\K (.int k n)/\(∀ v∈l,v ≠ .any/\DJ σ v=v)
 | [],a,h=>⟨a,rfl,h,λ v hv=>by cases hv⟩
 | v::r,a,h=>by
  cases v with
  | int k' b =>
   have h:(bif mx then A5 (a<b) (b<=a) (gE mx k K b r) (gE mx k K a r) else A5 (b<a) (a<=b) (gE mx k K b r) (gE mx k K a r)):=h;have fin : ∀ c:Int,ZM mx (.int k a) (.int k' b)=some (.int k c)->gE mx k K c r -> ∃ n,SI mx (.int k a) (.int k' b::r)=some (.int k n)/\K (.int k n)/\(∀ v∈AV.int k' b::r,v ≠ .any/\DJ σ v=v):=by
    intro c hc hx;obtain ⟨n,h1,h2,h3⟩:=Aft hx;refine ⟨n,by simp only[SI,hc,h1],h2,λ v hv => ?_⟩;rcases Gc.1 hv with rfl|hv
    ·exact ⟨O_,rfl⟩
    ·exact h3 v hv
   cases mx
   ·simp only[cond_false]at h
    by_cases hc:b<a
    ·exact fin b (by simp [ZM,hc]) (h.1 hc)
    ·exact fin a (by simp [ZM,hc]) (h.2 D')
   ·simp only[cond_true]at h
    by_cases hc:a<b
    ·exact fin b (by simp [ZM,hc]) (h.1 hc)
    ·exact fin a (by simp [ZM,hc]) (h.2 D')
  | _=>exact (h:False).elim
theorem Akj {mx:Bool} {xs:List BM} (hr:RX σ tm M st) (h:XE L tm M b8 K (.mm mx xs)):D5 L tm b8 K (.mm mx xs) st:=by
 simp only[XE]at h;split at h
 ·rename_i k a r e
  obtain ⟨n,h1,h2,h3⟩:=Aft (σ:=σ) h;refine D5.val hr (.int k n) (λ C => ?_) h2;have hx : ∀ v∈aR tm xs,v ≠ .any:=by
   rw[e];intro v hv;rcases Gc.1 hv with rfl|hv
   ·intro e;cases e
   ·exact (h3 v hv).1
  have hm:(aR tm xs).map (DJ σ) = .int k a::r:=by
   rw[e,ta];congr 1;conv=>rhs;rw[<-Rh r]
   exact ec λ v hv=>(h3 v hv).2
  simp only[g7];rw[show xs.map st.ev = .int k a::r from (evL hr hx).trans hm];simp only[h1,Wb,M3]
 ·exact h.elim
theorem ArY (hr:RX σ tm M st) {k t:Nat} {K:Nat->c_->Prop} (h:rwX M k t K) : ∃ z es,(st.own (σ k t).1).g8 (σ k t).2=some ⟨z,es⟩/\K z es:=by
 unfold rwX at h;split at h
 ·rename_i s c hm
  split at h
  ·split at h
   ·exact ⟨_,_,hr.sat.g8 _ _ _ (H5 hm),h⟩
   ·exact h.elim
  ·rename_i i
   split at h
   ·rename_i rows
    obtain ⟨z,es,g,h⟩:=h;exact ⟨z,es,hr.sat.g8 k (i+1) (.rw z es) (by simp [b7,hm,g]),h⟩
   ·exact h.elim
 ·exact h.elim
theorem AsA {own m8:BF} {s t i j:Nat} {vs:d_} (h:own.wg s t i j vs=some m8):own.put s (m8 s)=m8:=by
 unfold BF.wg at h;cases hg:own.get s t with
 | none=>simp [hg]at h
 | some b =>
  simp only[hg]at h;cases he:b.es[i]? with
  | none=>simp [he]at h
  | some cs =>
   simp only[he]at h;split at h
   ·obtain rfl:=Fb h
    rw[BF.l9]
   ·cases h
theorem Ako {s n:Nat} {x v:BM} (hr:RX σ tm M st) (h:XE L tm M b8 K (.ym s n x v)):D5 L tm b8 K (.ym s n x v) st:=by
 simp only[XE]at h;split at h
 ·rename_i key i j e1
  split at h
  ·rename_i s' c hm
   cases hb:Wa s' s<;>simp only[hb,cond_true,cond_false]at h;obtain rfl:=DY.1 hb;have mu:=hr.sat.site _ _ _ hm;obtain ⟨E,σ',v',M',h1,h2,h3,h4⟩:=Acd (b8:=b8) (L:=L) hr (show XE L tm M b8 K (.st n x v) from h);have gv:=hr.ev e1 O_;rw[IB,mu]at gv;have key : ∀ vs,cellsOf (st.ev v)=some vs->vs.length=n -> ∃ o',st.own.wg s' (σ key 0).2 i j vs=some o'/\E = .kb (.e9 []) o':=λ vs pg hn=>by
    have:=h1 0
    simp only[g7,gv,pg]at this;rw[if_pos hn,Re]at this;obtain ⟨o',a1,a2⟩:=this;exact ⟨o',a1,a2.symm⟩
   cases pg:cellsOf (st.ev v) with
   | none=>have:=h1 0;simp [g7,gv,pg]at this
   | some vs =>
    by_cases hn:vs.length=n
    ·obtain ⟨o',a1,rfl⟩:=key vs pg hn
     refine ⟨.v9 s' (o' s'),σ',v',M',λ C => ?_,h2,h3,?_⟩
     ·simp only[g7,gv,pg]
      rw[if_pos ⟨trivial,hn⟩,a1];rfl
     ·have e2:(ET.res st.own (.v9 s' (o' s'))).2=o':=AsA a1
      rw[e2];exact h4
    ·have:=h1 0
     simp only[g7,gv,pg]at this;rw[if_neg hn]at this;cases this
  ·exact h.elim
 ·exact h.elim
theorem Akc {ne:Bool} {x:BM} (hr:RX σ tm M st) (h:XE L tm M b8 K (.Cg ne x)):D5 L tm b8 K (.Cg ne x) st:=by
 simp only[XE]at h;split at h
 ·rename_i e1
  rw[ZC]at h;exact D5.val hr _ (λ C=>by simp only[g7,hr.ev e1 O_,JZ,MX]) h
 ·rename_i b e1
  rw[ZC]at h;exact D5.val hr _ (λ C=>by simp only[g7,hr.ev e1 O_,ArZ,MX]) h
 ·rename_i q es e1
  obtain ⟨h0,h⟩:=h;rw[ZC]at h;cases es with
  | nil=>exact absurd rfl h0
  | cons e es=>exact D5.val hr _ (λ C=>by simp only[g7,hr.ev e1 O_,N6,MX]) h
 ·rename_i s t z o n e1
  obtain ⟨h0,h⟩:=h;rw[ZC]at h;cases n with
  | zero=>exact absurd h0 D'
  | succ n=>exact D5.val hr _ (λ C=>by simp only[g7,hr.ev e1 O_,HE,MX]) h
 ·exact h.elim
theorem Aj5 {x:BM} (hr:RX σ tm M st) (h:XE L tm M b8 K (.mj x)):D5 L tm b8 K (.mj x) st:=by
 simp only[XE]at h;split at h
 ·rename_i e
  exact D5.val hr _ (λ C=>by simp only[g7,hr.ev e O_,JZ];rfl) h
 ·exact h.elim
theorem AjZ {s z bytes:Nat} {x y:BM} (hr:RX σ tm M st) (h:XE L tm M b8 K (.yx s z bytes x y)):D5 L tm b8 K (.yx s z bytes x y) st:=by
 simp only[XE]at h;split at h
 ·rename_i k n e1 e2
  cases px:IX s<;>simp only[px,cond_true,cond_false]at h;obtain ⟨⟨g1,g2,g3⟩,h⟩:=h;obtain ⟨k,h1,h2,h3⟩:=N9 h;refine ⟨.new s ⟨z,[]⟩ (λ t => .row s t z 0 n.toNat),_,_,_,λ C => ?_,h3,?_,hr.pz h1 h2 (.rw z []) trivial rfl (λ_=>px)⟩
  ·simp only[g7,hr.ev e1 O_,hr.ev e2 O_,M3,JZ]
   rw[if_pos ⟨g1,g2,g3⟩]
  ·simp only[ET.res,HE,EG]
 ·exact h.elim
theorem Akm {tb:a_} {x:BM} (hr:RX σ tm M st) (h:XE L tm M b8 K (.oz tb x)):D5 L tm b8 K (.oz tb x) st:=by
 simp only[XE]at h;split at h
 ·rename_i k n e1
  obtain ⟨h0,v,h1,h2⟩:=h;exact D5.val hr _ (λ C=>by simp only[g7,hr.ev e1 O_,M3,h1];rw[if_pos h0]) h2
 ·exact h.elim
theorem AoS {v:AV} {K:AV->Prop} (h:fF v K):v ≠ .any/\LT (DJ σ v)=some (C3 σ v)/\K v:=by
 cases v<;>first|exact (h:False).elim|exact ⟨O_,rfl,h⟩
theorem AfE (hr:RX σ tm M st) : ∀ {l:List BM} {K:d_->Prop},oaX tm l K -> ∃ cs,l.mapM (λ x=>LT (st.ev x))=some (cs.map (C3 σ))/\K cs
 | [],K,h=>⟨[],rfl,h⟩
 | x::r,K,h=>by
  obtain ⟨h0,hc,h⟩:=AoS (σ:=σ) (show fF (ex tm x) λ v=>oaX tm r λ cs=>K (v::cs) from h);obtain ⟨cs,h1,h2⟩:=AfE hr h;refine ⟨ex tm x::cs,?_,h2⟩;rw[Gb,h1,hr.ev rfl h0,hc];rfl
theorem Aki {p:Bool} {f:Nat} {xs:List BM} (hr:RX σ tm M st) (h:XE L tm M b8 K (.Au p f xs)):D5 L tm b8 K (.Au p f xs) st:=by
 simp only[XE]at h;obtain ⟨cs,h1,h2⟩:=AfE hr h;exact D5.val hr _ (λ C=>by simp only[g7,h1,Wb,oO,List.isEmpty_map];rfl) h2
theorem Akh {f:Nat} {x:BM} (hr:RX σ tm M st) (h:XE L tm M b8 K (.Bo f x)):D5 L tm b8 K (.Bo f x) st:=by
 simp only[XE]at h;split at h
 ·rename_i c cs e1
  exact D5.val hr _ (λ C=>by simp only[g7,hr.ev e1 O_,NH,oO,ta];rfl) h
 ·exact h.elim
theorem Ana (hr:RX σ tm M st) {v:AV} {K:c_->Prop} (h:rR M v K):v ≠ .any /\ ∃ es,IU st.own (DJ σ v)=some es/\K es:=by
 cases v with
 | sl q es=>exact ⟨O_,_,rfl,h⟩
 | nil=>exact ⟨O_,_,rfl,h⟩
 | iz v =>
  cases v with
  | bool b=>exact ⟨O_,_,rfl,h⟩
  | _=>exact (h:False).elim
 | row key t z off len =>
  simp only[rR]at h;obtain ⟨z',es,g,h⟩:=ArY hr h;cases hz:Wa z z'<;>simp only[hz,cond_true,cond_false]at h;obtain rfl:=DY.1 hz;refine ⟨O_,_,?_,h.2⟩;simp only[HE,IU,BF.get,g];rw[if_pos ⟨h.1,trivial⟩]
 | _=>exact (h:False).elim
theorem Xr (hr:RX σ tm M st) {o:Option BM} {K:Option Int->Prop} (h:sY tm o K):(o=none/\K none) \/ ∃ x k n,o=some x/\st.ev x = .int k n/\K (some n):=by
 unfold sY at h;split at h
 ·exact Or.inl ⟨rfl,h⟩
 ·split at h
  ·rename_i e
   exact Or.inr ⟨_,_,_,rfl,hr.ev e O_,h⟩
  ·exact h.elim
theorem Akn {z:Nat} {x:BM} {lo hi:Option BM} (hr:RX σ tm M st) (h:XE L tm M b8 K (.pn z x lo hi)):D5 L tm b8 K (.pn z x lo hi) st:=by
 simp only[XE]at h;have go : ∀ (a b:Option Int),(match ex tm x with
   | .sl l es=>E3 z es a b λ es=>K (.sl l es) M
   | .row key t z' off len=>bif Wa z' z then EJ a b len λ a h=>K (.row key t z (off+a) (h-a)) M else False
   | .nil=>(match a,b with
    | none,none=>K .nil M
    | some a,none=>BZ (a=0) (K .nil M)
    | none,some h=>BZ (h=0) (K .nil M)
    | some a,some h=>BZ (a=0/\h=0) (K .nil M))
   | _=>False)->(lo=none/\a=none \/ ∃ y k n,lo=some y/\st.ev y = .int k n/\a=some n)->(hi=none/\b=none \/ ∃ y k n,hi=some y/\st.ev y = .int k n/\b=some n)->D5 L tm b8 K (.pn z x lo hi) st:=by
  intro a b h ha hb;split at h
  ·rename_i q es e
   obtain ⟨g1,a',h',g2,g3,g4,h⟩:=h;refine D5.val hr _ (λ C => ?_) h;rcases ha with ⟨rfl,rfl⟩|⟨y,k,n,rfl,e1,rfl⟩<;>rcases hb with ⟨rfl,rfl⟩|⟨y',k',n',rfl,e2,rfl⟩<;>try simp only at g2 g3<;>simp only[g7,hr.ev e O_,N6, *]<;>simp_all
  ·rename_i key t z' off len e
   cases hz:Wa z' z<;>simp only[hz,cond_true,cond_false]at h;obtain rfl:=DY.1 hz;obtain ⟨a',h',g2,g3,g4,h⟩:=h;refine D5.val hr _ (λ C => ?_) h;rcases ha with ⟨rfl,rfl⟩|⟨y,k,n,rfl,e1,rfl⟩<;>rcases hb with ⟨rfl,rfl⟩|⟨y',k',n',rfl,e2,rfl⟩<;>try simp only at g2 g3<;>simp only[g7,hr.ev e O_,HE, *]<;>simp_all
  ·rename_i e
   rcases ha with ⟨rfl,rfl⟩|⟨y,k,n,rfl,e1,rfl⟩<;>rcases hb with ⟨rfl,rfl⟩|⟨y',k',n',rfl,e2,rfl⟩<;>simp only at h
   ·exact D5.val hr .nil (λ C=>by simp only[g7,hr.ev e O_,JZ]) h
   ·exact D5.val hr .nil (λ C=>by simp only[g7,hr.ev e O_,JZ,e2,h.1,if_true]) h.2
   ·exact D5.val hr .nil (λ C=>by simp only[g7,hr.ev e O_,JZ,e1,h.1,if_true]) h.2
   ·exact D5.val hr .nil (λ C=>by simp only[g7,hr.ev e O_,JZ,e1,e2,h.1.1,h.1.2,if_true]) h.2
  ·exact h.elim
 rcases Xr hr h with ⟨h1,h⟩|⟨y,k,n,h1,h2,h⟩
 ·rcases Xr hr h with ⟨g1,h⟩|⟨y,k,n,g1,g2,h⟩
  ·exact go _ _ h (Or.inl ⟨h1,rfl⟩) (Or.inl ⟨g1,rfl⟩)
  ·exact go _ _ h (Or.inl ⟨h1,rfl⟩) (Or.inr ⟨_,_,_,g1,g2,rfl⟩)
 ·rcases Xr hr h with ⟨g1,h⟩|⟨y',k',n',g1,g2,h⟩
  ·exact go _ _ h (Or.inr ⟨_,_,_,h1,h2,rfl⟩) (Or.inl ⟨g1,rfl⟩)
  ·exact go _ _ h (Or.inr ⟨_,_,_,h1,h2,rfl⟩) (Or.inr ⟨_,_,_,g1,g2,rfl⟩)
theorem Xe {s key:Nat} : ∀ {M:Mem},LW s M=false->LW s (v8 key M)=false
 | [],_=>rfl
 | (i,s0,c0)::r,h=>by
  simp only[LW]at h;cases q0:Wa s i<;>simp only[q0,cond_true,cond_false]at h
  ·cases q1:N4 s c0<;>simp only[q1,cond_true,cond_false]at h
   ·simp only[v8]
    cases Wa key i
    ·simp only[cond_false,LW,q0,q1,Xe h]
    ·simp only[cond_true,Xe h]
   ·cases h
  ·cases h
theorem AjY {s z bytes:Nat} {x y:BM} (hr:RX σ tm M st) (h:rR M (ex tm y) λ ys=>match ex tm x with
   | .row key 0 z' off len=>bif Wa off 0 then bif Wa z' z then (match c7 M key with
    | some (s',.rw po es)=>bif Wa po z then fM (v8 key M) λ M'=>(EC es len ys z bytes λ es' n=>LM s tm M λ k=>K (.row k 0 z 0 n) ((k,s',.rw z es')::M')) else False
    | _=>False) else False else False
   | .row key (i+1) z' off len=>bif Wa off 0 then bif Wa z' z then (match c7 M key with
    | some (sk,.mx rows)=>fM (v8 key M) λ M'=>DP rows i λ po es=>bif Wa po z then (EC es len ys z bytes λ es' n => ∀ s' v,LM s tm M λ k=>K (.row k 0 z 0 n) ((k,s',.rw z es')::(key,sk,.hx i v (rows.set i none))::M')) else False
    | _=>False) else False else False
   | .nil=>bif IX s then E0 ys z bytes λ es n=>LM s tm M λ k=>K (.row k 0 z 0 n) ((k,s,.rw z es)::M) else False
   | _=>False):D5 L tm b8 K (.app s z bytes x y) st:=by
 obtain ⟨h0,ys,hy,h⟩:=Ana hr h;have Cy:IU st.own (st.ev y)=some ys:=by rw[hr.ev rfl h0];exact hy
 split at h
 ·rename_i key z' off len e
  cases ho:Wa off 0<;>simp only[ho,cond_true,cond_false]at h;cases hz:Wa z' z<;>simp only[hz,cond_true,cond_false]at h;obtain rfl:=DY.1 ho;obtain rfl:=DY.1 hz;split at h
  ·rename_i s' po es hm
   cases ru:Wa po z'<;>simp only[ru,cond_true,cond_false]at h;obtain rfl:=DY.1 ru;rw[ZE]at h;obtain ⟨g1,g2,g3,g4,h⟩:=h;obtain ⟨k,h1,h2,h3⟩:=N9 h;have hs:=hr.sat.site _ _ _ hm;have gk:=hr.sat.g8 _ _ _ (H5 hm);have hn:=(hr.kill hm).pz (s:=k) (q:=s') (Xe h1) h2 (.rw po (es.take len++ys)) trivial rfl (λ_=>by have:=hr.sat.low _ _ _ (H5 hm) rfl;rwa [hs]at this);have Ato:(st.own.put s' ((st.own s').v9 (σ key 0).2 none)).j8 s'=st.own.j8 s':=by simp [BF.j8,BF.l9,EV.v9]
   simp only[BF.l9,BF.Bq,Ato]at hn;refine ⟨.kb (.row s' (st.own.j8 s') po 0 (len+ys.length)) (st.own.put s' (((st.own s').v9 (σ key 0).2 none).new ⟨po,es.take len++ys⟩)),_,_,_,λ C => ?_,h3,?_,hn⟩
   ·rw[hs]at gk
    simp only[g7,Cy,hr.ev e O_,HE,BF.get,hs,gk,C4.g8];rw[if_pos g2,if_pos ⟨trivial,trivial,g1,g3,g4⟩]
   ·simp only[ET.res,HE,EG]
  ·exact h.elim
 ·rename_i key i z' off len e
  cases ho:Wa off 0<;>simp only[ho,cond_true,cond_false]at h;cases hz:Wa z' z<;>simp only[hz,cond_true,cond_false]at h;obtain rfl:=DY.1 ho;obtain rfl:=DY.1 hz;split at h
  ·rename_i sk rows hm
   rw[ZE]at h;obtain ⟨po,es,g0,h⟩:=h;cases ru:Wa po z'<;>simp only[ru,cond_true,cond_false]at h;obtain rfl:=DY.1 ru;obtain ⟨g1,g2,g3,g4,h⟩:=h;have h:=h (σ key (i+1)).1 (.row (σ key (i+1)).1 (σ key (i+1)).2 po 0 es.length);obtain ⟨k,h1,h2,h3⟩:=N9 h;have gk:=hr.sat.g8 key (i+1) (.rw po es) (by simp [b7,hm,g0]);have hn:=hr.Ath (s:=k) (es':=es.take len++ys) hm g0 h1 h2;refine ⟨.kb (.row (σ key (i+1)).1 (st.own.j8 (σ key (i+1)).1) po 0 (len+ys.length)) (st.own.put (σ key (i+1)).1 (((st.own (σ key (i+1)).1).v9 (σ key (i+1)).2 none).new ⟨po,es.take len++ys⟩)),_,_,_,λ C => ?_,h3,?_,hn⟩
   ·simp only[g7,Cy,hr.ev e O_,HE,BF.get,gk,C4.g8]
    rw[if_pos g2,if_pos ⟨trivial,trivial,g1,g3,g4⟩]
   ·simp only[ET.res,HE,EG]
  ·exact h.elim
 ·rename_i e
  cases px:IX s<;>simp only[px,cond_true,cond_false]at h;obtain ⟨g2,g3,g4,h⟩:=h;obtain ⟨k,h1,h2,h3⟩:=N9 h;refine ⟨.kb (.row s (st.own.j8 s) z 0 ys.length) (st.own.put s ((st.own s).new ⟨z,ys⟩)),_,_,_,λ C => ?_,h3,?_,hr.pz h1 h2 (.rw z ys) trivial rfl (λ_=>px)⟩
  ·simp only[g7,Cy,hr.ev e O_,JZ]
   rw[if_pos g2,if_pos ⟨g3,g4⟩]
  ·simp only[ET.res,HE,EG]
 ·exact h.elim
theorem AkC {v:AV} {ky k2 z n:Nat} (h:eG M v=some (ky,some (k2,z,n))):v = .row ky 0 1 0 1 /\ ∃ sy,c7 M ky=some (sy,.bs 1 [[.row k2 0 z 0 n]]):=by
 unfold eG at h;split at h
 ·split at h
  ·rename_i hm
   simp only[ka,oc]at h;obtain ⟨rfl,rfl,rfl,rfl⟩:=h;exact ⟨rfl,_,hm⟩
  ·simp at h
  ·cases h
 ·cases h
theorem AkB {v:AV} {ky:Nat} (h:eG M v=some (ky,none)):v = .row ky 0 1 0 1 /\ ∃ sy,c7 M ky=some (sy,.rw 1 [[.nil]]):=by
 unfold eG at h;split at h
 ·split at h
  ·simp at h
  ·rename_i hm
   simp only[ka,oc,and_true]at h;subst h;exact ⟨rfl,_,hm⟩
  ·cases h
 ·cases h
theorem AjX {s z bytes:Nat} {x y:BM} (hr:RX σ tm M st) (h:XE L tm M b8 K (.app s z bytes x y)):D5 L tm b8 K (.app s z bytes x y) st:=by
 simp only[XE]at h;cases hV:Ue 800000 s<;>simp only[hV,cond_true,cond_false]at h;split at h
 ·rename_i ky k2 z2 n2 Cn
  obtain ⟨Ap,sy,Hy⟩:=AkC Cn;have wz:=hr.sat.site _ _ _ Hy;have Bx:=hr.sat.g8 _ _ _ (H5 Hy);rw[wz]at Bx
  have Vc:IU st.own (st.ev y)=some [[.row (σ k2 0).1 (σ k2 0).2 z2 0 n2]]:=by
   rw[hr.ev Ap O_];simp only[HE,IU,BF.get,wz,Bx,C4.g8,C3,ta,xd,Wc,Cc];simp
  split at h
  ·rename_i key z' off len e
   cases ho:Wa off 0<;>simp only[ho,cond_true,cond_false]at h;cases hz:Wa z' 1<;>simp only[hz,cond_true,cond_false]at h;cases nj:Wa z 1<;>simp only[nj,cond_true,cond_false]at h;cases pc:Wa key k2<;>simp only[pc,cond_true,cond_false]at h;cases hky:Wa key ky<;>simp only[hky,cond_true,cond_false]at h;cases hk3:Wa k2 ky<;>simp only[hk3,cond_true,cond_false]at h;obtain rfl:=DY.1 ho;obtain rfl:=DY.1 hz;obtain rfl:=DY.1 nj;split at h
   ·rename_i s2 z3 es pd
    cases Vd:Wa z2 z3<;>simp only[Vd,cond_true,cond_false]at h;obtain rfl:=DY.1 Vd;split at h
    ·rename_i s' rows hm
     rw[ZE]at h;obtain ⟨rfl,rfl,g3,g4,h⟩:=h;obtain ⟨k,h1,h2,h3⟩:=N9 h;have hs:=hr.sat.site _ _ _ hm;have gk:=hr.sat.g8 _ _ _ (H5 hm);rw[hs]at gk;refine ⟨.kb (.row s' (st.own.j8 s') 1 0 (rows.length+1)) (st.own.put s' (((st.own s').v9 (σ key 0).2 none).new ⟨1,EN σ key 0 rows++[[.row (σ k2 0).1 (σ k2 0).2 z2 0 es.length]]⟩)),_,_,_,λ C => ?_,h3,?_,hr.Ati (ky:=ky) hm pd (JN.1 pc) h1 h2⟩
     ·simp only[g7,Vc,hr.ev e O_,HE,BF.get,hs,gk,C4.g8]
      rw[if_pos p_,if_pos ⟨trivial,trivial,by rw[JI];exact Pc _,by simpa using g3,by simpa using g4⟩];rw[zT (by rw[JI];exact Pc _)];rfl
     ·simp only[ET.res,HE,EG]
    ·exact h.elim
   ·exact h.elim
  ·rename_i e
   cases px:IX s<;>simp only[px,cond_true,cond_false]at h;cases nj:Wa z 1<;>simp only[nj,cond_true,cond_false]at h;obtain rfl:=DY.1 nj;split at h
   ·rename_i s2 z3 es pd
    cases Vd:Wa z2 z3<;>simp only[Vd,cond_true,cond_false]at h;obtain rfl:=DY.1 Vd;rw[ZE]at h;obtain ⟨⟨rfl,g3⟩,h⟩:=h;obtain ⟨k,h1,h2,h3⟩:=N9 h;obtain ⟨σ',q1,q2⟩:=hr.Avk (q:=s) pd (λ e=>(gW h1 _ _ _ pd).1 e.symm) h1 h2 px;refine ⟨.kb (.row s (st.own.j8 s) 1 0 1) (st.own.put s ((st.own s).new ⟨1,[[.row (σ k2 0).1 (σ k2 0).2 z2 0 es.length]]⟩)),σ',_,_,λ C => ?_,h3,?_,q2⟩
    ·simp only[g7,Vc,hr.ev e O_,JZ]
     rw[if_pos p_,if_pos ⟨by simpa [H8] using g3,p_⟩];rfl
    ·simp only[ET.res,HE,q1]
   ·exact h.elim
  ·exact h.elim
 ·rename_i ky Cn
  obtain ⟨Ap,sy,Hy⟩:=AkB Cn;have wz:=hr.sat.site _ _ _ Hy;have Bx:=hr.sat.g8 _ _ _ (H5 Hy);rw[wz]at Bx
  have Vc:IU st.own (st.ev y)=some [[.nil]]:=by
   rw[hr.ev Ap O_];simp only[HE,IU,BF.get,wz,Bx,C4.g8,Wc,Cc];simp
  split at h
  ·rename_i key z' off len e
   cases ho:Wa off 0<;>simp only[ho,cond_true,cond_false]at h;cases hz:Wa z' 1<;>simp only[hz,cond_true,cond_false]at h;cases nj:Wa z 1<;>simp only[nj,cond_true,cond_false]at h;cases hky:Wa key ky<;>simp only[hky,cond_true,cond_false]at h;obtain rfl:=DY.1 ho;obtain rfl:=DY.1 hz;obtain rfl:=DY.1 nj;split at h
   ·rename_i s' rows hm
    rw[ZE]at h;obtain ⟨rfl,g3,g4,h⟩:=h;obtain ⟨k,h1,h2,h3⟩:=N9 h;have hs:=hr.sat.site _ _ _ hm;have gk:=hr.sat.g8 _ _ _ (H5 hm);rw[hs]at gk;refine ⟨.kb (.row s' (st.own.j8 s') 1 0 (rows.length+1)) (st.own.put s' (((st.own s').v9 (σ key 0).2 none).new ⟨1,EN σ key 0 rows++[[.nil]]⟩)),_,_,_,λ C => ?_,h3,?_,hr.Atj hm h1 h2⟩
    ·simp only[g7,Vc,hr.ev e O_,HE,BF.get,hs,gk,C4.g8]
     rw[if_pos p_,if_pos ⟨trivial,trivial,by rw[JI];exact Pc _,by simpa using g3,by simpa using g4⟩];rw[zT (by rw[JI];exact Pc _)];rfl
    ·simp only[ET.res,HE,EG]
   ·exact h.elim
  ·rename_i e
   cases px:IX s<;>simp only[px,cond_true,cond_false]at h;cases nj:Wa z 1<;>simp only[nj,cond_true,cond_false]at h;obtain rfl:=DY.1 nj;obtain ⟨g3,h⟩:=h;obtain ⟨k,h1,h2,h3⟩:=N9 h;have jk:C4.flat (.mx [none]):=by
    intro i x hx;cases i with
    | zero=>simp at hx
    | succ i=>simp at hx
   refine ⟨.kb (.row s (st.own.j8 s) 1 0 1) (st.own.put s ((st.own s).new ⟨1,[[.nil]]⟩)),_,_,_,λ C => ?_,h3,?_,hr.pz h1 h2 (.mx [none]) jk rfl (λ_=>px)⟩
   ·simp only[g7,Vc,hr.ev e O_,JZ]
    rw[if_pos p_,if_pos ⟨by simpa [H8] using g3,p_⟩];rfl
   ·simp only[ET.res,HE,EG]
  ·exact h.elim
 ·exact AjY hr h
end
end Go.j4
namespace Go.j4
section
variable {σ:JF} {tm:Tm} {M:Mem} {st:St} {L:Lib} {b8:a_}
theorem AfH {own:BF} {q:Bool} {d:Nat} : ∀ {e:d_},JW e=true->e.mapM (snap own q d)=some e
 | [],_=>rfl
 | v::r,h=>by
  have hv:snap own q d v=some v/\JW r=true:=by
   cases v<;>simp only[JW]at h<;>first|cases h|exact ⟨by cases d<;>rfl,h⟩
  rw[Gb,hv.1,AfH hv.2];rfl
theorem AfJ {own:BF} {q:Bool} {d:Nat} : ∀ {e:d_},WB e=true->e.mapM (snap own q d)=some (e.map nl)
 | [],_=>rfl
 | v::r,h=>by
  have hv:snap own q d v=some (nl v)/\WB r=true:=by
   cases v<;>simp only[WB]at h<;>first|cases h|exact ⟨by cases d<;>rfl,h⟩
  rw[Gb,hv.1,AfJ hv.2];rfl
theorem AfI {own:BF} {q:Bool} {d:Nat} : ∀ {es:c_},(∀ e∈es,WB e=true)->es.mapM (λ cs:d_=>cs.mapM (snap own q d))=some (es.map λ e=>e.map nl)
 | [],_=>rfl
 | e::r,h=>by
  rw[Gb,AfJ (h e ie),AfI λ x hx=>h x (Ad _ hx)];rfl
theorem AfG {own:BF} {q:Bool} {d:Nat} : ∀ {es:c_},(∀ e∈es,JW e=true)->es.mapM (λ cs:d_=>cs.mapM (snap own q d))=some es
 | [],_=>rfl
 | e::r,h=>by
  rw[Gb,AfH (h e ie),AfG λ x hx=>h x (Ad _ hx)];rfl
theorem AgK (hs:LO σ st.own M) {q:Bool} {v:AV} {K:AV->Prop} (h:hJ q M b8 v K) : ∃ v',(∀ d,snap (st.own.o5 b8) q (d+1) (C3 σ v)=some v')/\K v'/\v ≠ .any/\DM σ v=C3 σ v:=by
 cases v with
 | row key t z off len =>
  have fin : ∀ (z':Nat) (es:c_),((st.own.o5 b8) (σ key t).1).g8 (σ key t).2=some ⟨z',es⟩->z=z'->CT es off len (λ es=>K (.sl q es)) -> ∃ v',(∀ d,snap (st.own.o5 b8) q (d+1) (C3 σ (.row key t z off len))=some v')/\K v'/\AV.row key t z off len ≠ .any/\DM σ (.row key t z off len)=C3 σ (.row key t z off len):=by
   intro z' es hb hz h;subst hz;obtain ⟨h1,h2,h3⟩:=h;refine ⟨_,λ d => ?_,h3,O_,rfl⟩;simp only[C3,snap,IU,BF.get,hb];rw[if_pos ⟨h1,trivial⟩];simp only;rw[AfI λ e he=>h2 e (Ug (Be he))];rfl
  simp only[hJ]at h;split at h
  ·rename_i s z' es hm
   split at h
   ·cases hz:Wa z z'<;>simp only[hz,cond_true,cond_false]at h
    cases hb:bR s b8<;>simp only[hb,cond_true,cond_false]at h;refine fin z' es ?_ (DY.1 hz) h;have gk:=hs.g8 _ _ _ (H5 hm);rw[hs.site _ _ _ hm]at gk ⊢;rw[kH hb];exact gk
   ·exact h.elim
  ·rename_i s rows hm
   split at h
   ·exact h.elim
   ·rename_i i
    split at h
    ·obtain ⟨z',es,g,h⟩:=h
     cases hz:Wa z z'<;>simp only[hz,cond_true,cond_false]at h;exact fin z' es (hs.g8 key (i+1) (.rw z' es) (by simp [b7,hm,g])) (DY.1 hz) h
    ·rename_i b r
     cases hb:gF (b::r)<;>simp only[hb,cond_true,cond_false]at h;obtain ⟨z',es,g,h⟩:=h;cases hz:Wa z z'<;>simp only[hz,cond_true,cond_false]at h;have g':b7 M key (i+1)=some (.rw z' es):=by simp [b7,hm,g]
     refine fin z' es ?_ (DY.1 hz) h;rw[Xu (hs.low _ _ _ g' rfl) hb];exact hs.g8 key (i+1) (.rw z' es) g'
  ·exact h.elim
 | int k n=>exact ⟨_,λ d=>rfl,h,O_,rfl⟩
 | bool b=>exact ⟨_,λ d=>rfl,h,O_,rfl⟩
 | sl l es=>exact ⟨_,λ d=>rfl,h,O_,rfl⟩
 | iz c=>exact ⟨_,λ d=>rfl,h,O_,rfl⟩
 | nil=>exact ⟨_,λ d=>rfl,h,O_,rfl⟩
 | _=>exact (h:False).elim
theorem AgJ (hs:LO σ st.own M) {q:Bool} : ∀ {l:d_} {K:d_->Prop},uJ q M b8 l K -> ∃ l',(∀ d,(l.map (C3 σ)).mapM (snap (st.own.o5 b8) q (d+1))=some l')/\K l'
 | [],K,h=>⟨[],λ d=>rfl,h⟩
 | v::r,K,h=>by
  obtain ⟨v',h1,h2,_⟩:=AgK hs (show hJ q M b8 v λ v'=>uJ q M b8 r λ r'=>K (v'::r') from h);obtain ⟨l',h3,h4⟩:=AgJ hs h2;refine ⟨v'::l',λ d => ?_,h4⟩;rw[ta,Gb,h1 d,h3 d];rfl
theorem AgI (hs:LO σ st.own M) {q:Bool} : ∀ {l:c_} {K:c_->Prop},Abj q M b8 l K -> ∃ l',(∀ d,(l.map λ cs=>cs.map (C3 σ)).mapM (λ cs:d_=>cs.mapM (snap (st.own.o5 b8) q (d+1)))=some l')/\K l'
 | [],K,h=>⟨[],λ d=>rfl,h⟩
 | v::r,K,h=>by
  obtain ⟨v',h1,h2⟩:=AgJ hs (show uJ q M b8 v λ v'=>Abj q M b8 r λ r'=>K (v'::r') from h);obtain ⟨l',h3,h4⟩:=AgI hs h2;refine ⟨v'::l',λ d => ?_,h4⟩;rw[ta,Gb,h1 d,h3 d];rfl
theorem Xf {own:BF} {q:Bool} {d:Nat} {k:Nat} : ∀ {rows:List (b_)} {i:Nat},(∀ j z es,rows[j]? = some (some (z,es))->(own (σ k (i+j+1)).1).g8 (σ k (i+j+1)).2=some ⟨z,es⟩ /\ ∀ e∈es,JW e=true) ->
  (EN σ k i rows).mapM (λ cs:d_=>cs.mapM (snap own q (d+1)))=some (dL q rows)
 | [],i,h=>rfl
 | none::r,i,h=>by
  rw[EN,Gb,Xf (i:=i+1) λ j z es hj=>by
   have:=h (j+1) z es (by simpa using hj)
   rwa [show i+(j+1)+1=i+1+j+1 by omega]at this]
  rfl
 | some (z,es)::r,i,h=>by
  rw[EN,Gb,Xf (i:=i+1) λ j z es hj=>by
   have:=h (j+1) z es (by simpa using hj)
   rwa [show i+(j+1)+1=i+1+j+1 by omega]at this]
  obtain ⟨h1,h2⟩:=h 0 z es rfl;have:snap own q (d+1) (.row (σ k (i+1)).1 (σ k (i+1)).2 z 0 es.length)=some (.sl q es):=by
   simp only[snap,IU,BF.get];rw[show (own (σ k (i+1)).1).g8 (σ k (i+1)).2=some ⟨z,es⟩ from h1];simp only[uc,Pc,and_self,if_true,Ae];rw[zT (Pc _),AfG h2];rfl
  rw[Gb,this];rfl
theorem AgH (hs:LO σ st.own M) {q:Bool} {v:AV} {K:AV->Prop} (h:oR q M b8 v K) : ∃ v',snap (st.own.o5 b8) q 6 (C3 σ v)=some v'/\K v'/\v ≠ .any/\DM σ v=C3 σ v/\F4 (st.own.o5 b8) q (C3 σ v)=some v':=by
 have Df:hJ q M b8 v K -> ∃ v',snap (st.own.o5 b8) q 6 (C3 σ v)=some v'/\K v'/\v ≠ .any/\DM σ v=C3 σ v/\F4 (st.own.o5 b8) q (C3 σ v)=some v':=by
  intro h;obtain ⟨v',h1,h2,h3,h4⟩:=AgK hs h;refine ⟨v',h1 5,h2,h3,h4,?_⟩;have:=h1 5
  cases v<;>first|exact this|exact (h:False).elim
 unfold oR at h;split at h
 ·rename_i key z off len
  split at h
  ·rename_i s z' es hm
   cases hz:Wa z z'<;>simp only[hz,cond_true,cond_false]at h;cases hb:bR s b8<;>simp only[hb,cond_true,cond_false]at h;cases ho:Wa off 0<;>simp only[ho,cond_true,cond_false]at h;obtain rfl:=DY.1 hz;obtain rfl:=DY.1 ho;obtain ⟨rfl,h⟩:=h;obtain ⟨l',h1,h2⟩:=AgI hs h;have gk:=hs.g8 _ _ _ (H5 hm);rw[hs.site _ _ _ hm]at gk;have key:snap (st.own.o5 b8) q 6 (C3 σ (.row key 0 z 0 es.length))=some (.sl q l'):=by
    simp only[C3,snap,IU,BF.get,hs.site _ _ _ hm];rw[kH hb,gk];simp only[C4.g8,uc,xc,Pc,and_self,if_true,Ae];rw[zT p_,h1 4];rfl
   exact ⟨_,key,h2,O_,rfl,key⟩
  ·rename_i s rows hm
   split at h
   ·cases hz:Wa z 1<;>simp only[hz,cond_true,cond_false]at h
    obtain rfl:=DY.1 hz;obtain ⟨rfl,rfl,h1,h2⟩:=h;have gk:=hs.g8 _ _ _ (H5 hm);have key:snap (st.own.o5 []) q 6 (C3 σ (.row key 0 1 0 rows.length))=some (.sl q (dL q rows)):=by
     simp only[C3,snap,IU,BF.get,BF.o5];rw[gk];simp only[C4.g8,uc,JI,Pc,and_self,if_true,Ae];rw[zT (by rw[JI];exact Pc _),Xf (i:=0) λ j z es hj=>⟨by
      have:=hs.g8 key (j+1) (.rw z es) (by simp [b7,hm,hj])
      simpa [C4.g8] using this,h1 z es (zM hj)⟩]
     rfl
    exact ⟨_,key,h2,O_,rfl,key⟩
   ·exact h.elim
  ·exact Df h
 ·exact Df h
theorem AgL (hs:LO σ st.own M) {q:Bool} : ∀ {l:d_} {K:d_->Prop},snL q M b8 l K -> ∃ l',(l.map (C3 σ)).mapM (snap (st.own.o5 b8) q 6)=some l'/\K l'
 | [],K,h=>⟨[],rfl,h⟩
 | v::r,K,h=>by
  obtain ⟨v',h1,h2,_⟩:=AgH hs (show oR q M b8 v λ v'=>snL q M b8 r λ r'=>K (v'::r') from h);obtain ⟨l',h3,h4⟩:=AgL hs h2;refine ⟨v'::l',?_,h4⟩;rw[ta,Gb,h1,h3];rfl
theorem uI (hs:LO σ st.own M) {q:Bool} {v:AV} {K:AV->Prop} (h:ZZ q M b8 v K) : ∃ v',F4 (st.own.o5 b8) q (DJ σ v)=some v'/\K v'/\v ≠ .any/\DJ σ v=DM σ v:=by
 cases v with
 | agg cs =>
  simp only[ZZ]at h;obtain ⟨l',h1,h2⟩:=AgL hs h;refine ⟨.agg l',?_,h2,O_,rfl⟩;simp only[NH,F4,h1,Wb]
 | e9 vs=>exact (h:False).elim
 | fn p f g cs=>exact (h:False).elim
 | any=>exact (h:False).elim
 | _ =>
  simp only[ZZ]at h;obtain ⟨v',h1,h2,h3,h4,h5⟩:=AgH hs h;exact ⟨v',h5,h2,h3,rfl⟩
theorem uL (hr:RX σ tm M st) : ∀ {xs:List BM} {K:d_->Prop},oS tm M b8 xs K -> ∃ vs,(xs.map st.ev).mapM (F4 (st.own.o5 b8) true)=some vs/\K vs
 | [],K,h=>⟨[],rfl,h⟩
 | x::r,K,h=>by
  obtain ⟨v',h1,h2,h3,_⟩:=uI hr.sat (show ZZ true M b8 (ex tm x) λ v=>oS tm M b8 r λ vs=>K (v::vs) from h);obtain ⟨l',h4,h5⟩:=uL hr h2;refine ⟨v'::l',?_,h5⟩;rw[ta,Gb,hr.ev rfl h3,h1,h4];rfl
theorem Ash (hs:LO σ st.own M) {v:AV} {K:AV->Prop} (h:uK M b8 v K) : ∃ v',YK (st.own.o5 b8) true (DJ σ v)=some v'/\K v'/\v ≠ .any/\DJ σ v=DM σ v:=by
 cases v with
 | nil=>exact ⟨.nil,rfl,h,O_,rfl⟩
 | _ =>
  simp only[uK]at h;obtain ⟨v',h1,h2,h3,h4⟩:=uI hs h;exact ⟨v',h1,h2,h3,h4⟩
theorem AgM (hr:RX σ tm M st) : ∀ {xs:List BM} {K:d_->Prop},Abl tm M b8 xs K -> ∃ vs,(xs.map st.ev).mapM (YK (st.own.o5 b8) true)=some vs/\K vs
 | [],K,h=>⟨[],rfl,h⟩
 | x::r,K,h=>by
  obtain ⟨v',h1,h2,h3,_⟩:=Ash hr.sat (show uK M b8 (ex tm x) λ v=>Abl tm M b8 r λ vs=>K (v::vs) from h);obtain ⟨l',h4,h5⟩:=AgM hr h2;refine ⟨v'::l',?_,h5⟩;rw[ta,Gb,hr.ev rfl h3,h1,h4];rfl
theorem jR (hr:RX σ tm M st) : ∀ {xs:List BM} {K:d_->Prop},fO tm xs K -> ∃ vs,xs.map st.ev=vs.map (DJ σ)/\K vs
 | [],K,h=>⟨[],rfl,h⟩
 | x::r,K,h=>by
  obtain ⟨h1,h2⟩:=sD (show fV (ex tm x) λ v=>fO tm r λ vs=>K (v::vs) from h);obtain ⟨vs,h3,h4⟩:=jR hr h2;exact ⟨ex tm x::vs,by rw[ta,ta,hr.ev rfl h1,h3],h4⟩
theorem AcM {v:AV} (h:CI v):C3 σ v=v:=by
 cases v<;>first|rfl|(simp only[CI]at h)
theorem AcK : ∀ {l:d_},ES l->l.map (C3 σ)=l
 | [],_=>rfl
 | v::r,h=>by
  simp only[ES]at h;rw[ta,AcM h.1,AcK h.2]
theorem AcN {v:AV} (h:CI v):DM σ v=v:=by
 cases v with
 | agg cs=>simp only[CI]at h;simp only[DM,AcK h]
 | fn p f g cs=>simp only[CI]at h
 | _=>exact AcM (σ:=σ) h
theorem AcL : ∀ {l:d_},ES l->l.map (DM σ)=l
 | [],_=>rfl
 | v::r,h=>by
  simp only[ES]at h;rw[ta,AcN h.1,AcL h.2]
theorem wL {v:AV} (h:CI v):DJ σ v=v:=by
 cases v with
 | e9 cs=>simp only[CI]at h;simp only[DJ,AcL h]
 | _=>exact AcN (σ:=σ) h
theorem Af4 {I:d_->Option (AV × BF)} {vs:d_} {r:AV} (h:P2 I vs=some r):CI r:=by
 unfold P2 at h;split at h
 ·split at h
  ·split at h
   ·obtain rfl:=Fb h
    assumption
   ·cases h
  ·cases h
 ·cases h
theorem Ev.clean {f:Nat} {vs:d_} {r:AV} (h:Ev L f vs r):CI r:=by
 obtain ⟨n,h⟩:=h;unfold L7 TH at h;split at h
 ·split at h
  ·rename_i r1 r2 h1 h2
   split at h
   ·obtain rfl:=Fb h
    exact Af4 h1
   ·cases h
  ·cases h
 ·exact Af4 h
theorem RX.put (h:RX σ tm M st) (d:Nat) {v v':AV} (e:v'=DJ σ v):RX σ ((d,v)::tm) M ⟨sv st.tm d v',st.own⟩:=by
 refine ⟨λ j => ?_,h.sat⟩;simp only[tg,pE];cases hb:Wa j d
 ·rw[if_neg (JN.1 hb)];exact h.tm j
 ·rw[if_pos (DY.1 hb)];exact Or.inr e
theorem AfK : ∀ {cs:d_},nM cs=true->cs.map (DJ σ)=cs.map (C3 σ)
 | [],_=>rfl
 | v::r,h=>by
  simp only[nM]at h;cases hv:Xw v<;>simp only[hv,cond_true,cond_false]at h
  ·cases h
  ·rw[ta,ta,AfK h]
   cases v<;>first|rfl|(simp [Xw]at hv)
theorem AmW {v:AV} (h:LE v=true):C3 σ v=v:=by cases v<;>first|rfl|(simp [LE]at h)
theorem Adr : ∀ {cs:d_},cs.all LE=true->cs.map (C3 σ)=cs
 | [],_=>rfl
 | c::r,h=>by
  simp only[Sb,Sa]at h;rw[ta,AmW h.1,Adr h.2]
theorem Ads : ∀ {vs:d_},vs.all dq=true->vs.map (DJ σ)=vs
 | [],_=>rfl
 | v::r,h=>by
  simp only[Sb,Sa]at h;rw[ta,Ads h.2];congr 1;cases v with
  | agg cs=>simp only[DJ,DM,Adr (show cs.all LE=true from h.1)]
  | _=>first|rfl|(simp [dq,LE]at h)
theorem Aqx {r:AV} (hc:CI r) (hf:Q9 r):DJ σ (Iv r)=Iv r:=by
 cases r with
 | agg cs =>
  simp only[Iv,DJ,DM];congr 1;rw[Gd];refine ec λ c yc => ?_
  have:=hf c yc
  cases c<;>first|rfl|exact this.elim
 | _=>first|rfl|exact hf.elim
theorem Aqt {c:AV} (h:CI c):C3 σ (ML c)=ML c:=by
 cases c<;>first|(simp only[ML,C3];done)|(simp only[CI]at h;done)
theorem Yz {r:AV} (h:CI r) (hd:pR r):DM σ (OT r)=OT r:=by
 cases r with
 | agg cs =>
  simp only[CI]at h;have : ∀ cs:d_,ES cs->(V6 cs).map (C3 σ)=V6 cs:=by
   intro cs;induction cs with
   | nil=>intro _;simp [V6]
   | cons c l ih =>
    intro h;simp only[ES]at h;rw[V6,ta,ih h.2,Aqt h.1]
  simp only[OT,DM,this cs h]
 | e9=>exact hd.elim
 | fn=>exact hd.elim
 | _=>first|(simp only[OT,ML,DM,C3];done)|(simp only[CI]at h;done)
theorem Aqu {r:AV} (h:CI r) (hd:dT r):DJ σ (SE r)=SE r:=by
 cases r with
 | e9 vs =>
  simp only[CI]at h;have : ∀ vs:d_,ES vs->(∀ v∈vs,pR v)->(vs.map OT).map (DM σ)=vs.map OT:=by
   intro vs;induction vs with
   | nil=>intro _ _;rfl
   | cons v l ih =>
    intro h hd;simp only[ES]at h;rw[ta,ta,ih h.2 λ x hx=>hd x (Ad _ hx),Yz h.1 (hd v ie)]
  simp only[SE,DJ,this vs h hd]
 | fn=>exact hd.elim
 | agg cs=>exact Yz h trivial
 | _=>first|exact Yz h trivial|(simp only[SE,OT,ML,DJ,DM,C3];done)|(simp only[CI]at h;done)
theorem Aqv {r:AV} (h:CI r) (hd:Q9 r\/dT r):DJ σ (V7 r)=V7 r:=by
 by_cases hf:Q9 r
 ·rw[Zb hf];exact Aqx h hf
 ·rw[Za hf];exact Aqu h (hd.resolve_left hf)
theorem AeP : ∀ {l:d_},sI l=true->l.map (DJ σ)=l
 | [],_=>rfl
 | .int _ _::r,h=>by
  rw[ta,AeP (l:=r) h];rfl
theorem AfB {s:Nat} : ∀ {M:Mem},kG s M=true -> ∀ k s' c,c7 M k=some (s',c)->s'≠s
 | [],_,_,_,_,e=>by cases e
 | (k0,s0,c0)::r,h,k,s',c,e=>by
  simp only[kG]at h;cases hb:Wa s0 s<;>simp only[hb,cond_true,cond_false]at h
  ·simp only[c7]at e
   cases hk:Wa k k0<;>simp only[hk,cond_true,cond_false]at e
   ·exact AfB h k s' c e
   ·obtain ⟨rfl,_⟩:=Prod.mk.inj (Fb e)
    exact λ e2=>by rw[e2]at hb;simp at hb
  ·cases h
theorem LO.Kw {σ:JF} {own Vh:BF} {M:Mem} {s:Nat} (h:LO σ own M) (hl:IX s=false) (hn:kG s M=true) (ho : ∀ q,q≠s->Vh q=own q):LO σ Vh M:=by
 have n6 : ∀ k t c,b7 M k t=some c->(σ k t).1≠s:=λ k t c e=>by
  cases hr:c.ur with
  | true =>
   intro e2;have:=h.low k t c e hr
   rw[e2,hl]at this;cases this
  | false =>
   obtain ⟨s',c0,g,g1,g2⟩:=LR e;cases t with
   | zero=>rw[h.site k s' c0 g];exact AfB hn k s' c0 g
   | succ i =>
    obtain ⟨rows,z,es,_,_,rfl⟩:=g2 i rfl;cases hr
 exact ⟨h.site,λ k t c e=>by rw[ho _ (n6 k t c e)];exact h.g8 k t c e,λ k t c e=>by rw[ho _ (n6 k t c e)];exact h.old k t c e,h.inj,h.low⟩
theorem Aka {K:AV->Mem->Prop} (hr:RX σ tm M st) {op:HO} (h:XE L tm M b8 K op):D5 L tm b8 K op st\/(∃ f xs,op = .call f xs)\/(∃ f xs,op = .j5 f xs)\/(∃ x xs,op = .q6 x xs)\/(∃ f xs,op = .l7 f xs)\/(∃ s f xs,op = .bf s f xs) \/ ∃ s f xs,op = .iy s f xs:=by
 cases op with
 | call f xs=>exact Or.inr (Or.inl ⟨_,_,rfl⟩)
 | j5 f xs=>exact Or.inr (Or.inr (Or.inl ⟨_,_,rfl⟩))
 | q6 x xs=>exact Or.inr (Or.inr (Or.inr (Or.inl ⟨_,_,rfl⟩)))
 | l7 f xs=>exact Or.inr (Or.inr (Or.inr (Or.inr (Or.inl ⟨_,_,rfl⟩))))
 | bf s f xs=>exact Or.inr (Or.inr (Or.inr (Or.inr (Or.inr (Or.inl ⟨_,_,_,rfl⟩)))))
 | iy s f xs=>exact Or.inr (Or.inr (Or.inr (Or.inr (Or.inr (Or.inr ⟨_,_,_,rfl⟩)))))
 | ym s n x v=>exact Or.inl (Ako hr h)
 | Cg ne x=>exact Or.inl (Akc hr h)
 | bad=>exact (show False from h).elim
 | mj x=>exact Or.inl (Aj5 hr h)
 | yx s z b x y=>exact Or.inl (AjZ hr h)
 | oz tb x=>exact Or.inl (Akm hr h)
 | Au p f xs=>exact Or.inl (Aki hr h)
 | Bo f x=>exact Or.inl (Akh hr h)
 | w9 x=>exact Or.inl (Akk hr h)
 | bu s z=>exact Or.inl (Akr hr h)
 | pick c a b=>exact Or.inl (Akl hr h)
 | bin o x y=>exact Or.inl (Aj1 hr h)
 | beq ne x y=>exact Or.inl (Aj0 hr h)
 | Bu ne n x y=>exact Or.inl (AjV hr h)
 | un o x=>exact Or.inl (Akp hr h)
 | conv k x=>exact Or.inl (Aj6 hr h)
 | box s x=>exact Or.inl (Aj2 hr h)
 | alloc s z=>exact Or.inl (AjW hr h)
 | build z ps=>exact Or.inl (Aj4 hr h)
 | c8 s z ps=>exact Or.inl (Aj3 hr h)
 | dj x o=>exact Or.inl (Aj8 hr h)
 | zf x o n a=>exact Or.inl (Aj9 hr h)
 | cp a z x i=>exact Or.inl (Akb hr h)
 | ld a n x=>exact Or.inl (Akd hr h)
 | Cz a n x=>exact Or.inl (Ake hr h)
 | st n x v=>exact Or.inl (Acd hr h)
 | mk s z b ze l c=>exact Or.inl (Akg hr h)
 | pn z x lo hi=>exact Or.inl (Akn hr h)
 | ext x i=>exact Or.inl (Aj7 hr h)
 | len x=>exact Or.inl (Akf hr h)
 | mm m xs=>exact Or.inl (Akj hr h)
 | app s z b x y=>exact Or.inl (AjX hr h)
theorem vU {K:AV->Mem->Prop} (hr:RX σ tm M st) {op:HO} {d:Option Nat} {g:Option (Nat × Bool)} {l:List AI} {k:List It} {Q:St->Prop} (h:XE L tm M b8 K op) (hg:JP st g=some true)
  (hk : ∀ σ' v v' M' m8,K v M'->v'=DJ σ' v->RX σ' tm M' ⟨st.tm,m8⟩->AO L l k ⟨((⟨st.tm,m8⟩:St).dst d v').tm,m8⟩ Q):AO L (⟨d,op,g,b8⟩::l) k st Q:=by
 rcases Aka hr h with ⟨E,σ',v,M',h1,h2,h3,h4⟩|⟨f,xs,rfl⟩|⟨f,xs,rfl⟩|⟨x,xs,rfl⟩|⟨f,xs,rfl⟩|⟨s,f,xs,rfl⟩|⟨s,f,xs,rfl⟩
 ·rw[AiC hg h1,vY]
  have:=hk σ' v _ M' _ h2 h3 h4
  cases d<;>exact this
 ·simp only[XE]at h
  obtain ⟨vs,h1,r,h2,h3⟩:=uL hr h;rw[Ail hg h1 h2];have:=hk σ r r M st.own h3 (wL h2.clean).symm hr
  cases d<;>exact this
 ·simp only[XE]at h
  split at h
  ·rename_i s
   obtain ⟨vs,h1,hF,⟨hl,hn⟩,h2⟩:=jR hr h;have jn:LO σ (st.own.put s ⟨0,λ_=>none⟩) M:=hr.sat.Kw hl hn λ q hq=>by simp [BF.put,hq]
   obtain ⟨r,m8,σ',M',⟨n,h3⟩,h4,h5,zo,h6⟩:=h2 σ _ jn;rw[<-h1]at h3;refine Aik hg (r:=DJ σ' r) (o':=m8.put s ⟨0,λ_=>none⟩) (by simp [BF.put]) ⟨n,λ o ho => ?_⟩ ?_
   ·rw[hF n _ _ o _ _ (λ t=>by simp [BF.get,BF.put]) (λ q hq=>by rw[ho q hq];simp [BF.put,hq]) h3]
    congr 2;funext q
    simp only[BF.put];split<;>rfl
   ·have:=hk σ' r _ M' ((m8.put s ⟨0,λ_=>none⟩).put s (st.own s)) h6 rfl ⟨λ j=>by rw[h5 j];exact hr.tm j,h4.Kw hl zo λ q hq=>by simp [BF.put,hq]⟩
    cases d<;>exact this
  ·rename_i hb
   obtain ⟨vs,h1,h2⟩:=jR hr h;obtain ⟨r,m8,σ',M',h3,h4,h5,h6⟩:=h2 σ st.own hr.sat;rw[<-h1]at h3;rw[Ain (λ s e=>hb s e) hg h3];have:=hk σ' r _ M' m8 h6 rfl ⟨λ j=>by rw[h5 j];exact hr.tm j,h4⟩
   cases d<;>exact this
 ·simp only[XE]at h
  split at h
  ·rename_i f g' e1
   obtain ⟨h0,h⟩:=h;obtain ⟨vs,h1,r,h2,h3⟩:=uL hr h;have e2:=hr.ev e1 O_;rw[oO,xd,h0]at e2;rw[Aio hg e2 h1 h2];have:=hk σ r r M st.own h3 (wL h2.clean).symm hr
   cases d<;>exact this
  ·rename_i f g' c cs e1
   obtain ⟨h0,h⟩:=h;obtain ⟨v',h1,h,_,_⟩:=uI hr.sat h;obtain ⟨vs,h2,r,h3,h4⟩:=uL hr h;have e2:=hr.ev e1 O_;rw[oO,h0]at e2;have h5:(AV.agg (c::cs |>.map (C3 σ))::xs.map st.ev).mapM (F4 st.own true)=some (v'::vs):=by
    rw[Gb,show F4 st.own true (AV.agg (c::cs |>.map (C3 σ)))=some v' from h1,show (xs.map st.ev).mapM (F4 st.own true)=some vs from h2];rfl
   rw[Aim hg e2 h5 h3];have:=hk σ r r M st.own h4 (wL h3.clean).symm hr
   cases d<;>exact this
  ·rename_i f g' cs e1
   cases ho:nM cs<;>simp only[ho,cond_true,cond_false]at h;obtain ⟨h0,h⟩:=h;obtain ⟨vs,h1,h2⟩:=jR hr h;rw[ME]at h2;obtain ⟨r,m8,σ',M',h3,h4,h5,h6⟩:=h2 σ st.own hr.sat;rw[Hg,<-h1,AfK (σ:=σ) ho]at h3;have e2:=hr.ev e1 O_;rw[oO,h0]at e2;rw[Air hg e2 h3];have:=hk σ' r _ M' m8 h6 rfl ⟨λ j=>by rw[h5 j];exact hr.tm j,h4⟩
   cases d<;>exact this
  ·exact h.elim
 ·simp only[XE]at h
  obtain ⟨vs,h1,h2⟩:=jR hr h;cases ho:vs.all dq<;>simp only[ho,cond_true,cond_false]at h2;obtain ⟨r,h3,h4,h5⟩:=h2;have e1:xs.map st.ev=vs:=by rw[h1];exact Ads ho
  rw[Aip hg (by rw[e1];exact ho) (by rw[e1];exact h3) h4];have:=hk σ (V7 r) (V7 r) M st.own h5 (Aqv h3.clean h4).symm hr
  cases d<;>exact this
 ·simp only[XE]at h
  cases Tg:IX s<;>simp only[Tg,cond_true,cond_false]at h;obtain ⟨vs,h1,z,es,n,h2,rfl,h3⟩:=AgM hr h;obtain ⟨k',g1,g2,g3⟩:=N9 h3;refine Aiq hg h1 h2 ?_;rw[vY];have:=hk (FZ σ k' λ_=>(s,st.own.j8 s)) _ (.row s (st.own.j8 s) z 0 es.length) _ _ g3 (by simp only[HE,EG]) (hr.pz (q:=s) g1 g2 (.rw z es) trivial rfl (λ_=>Tg))
  cases d<;>exact this
 ·simp only[XE]at h
  obtain ⟨vs,h1,h2⟩:=jR hr h;split at h2
  ·rename_i key rest
   cases hi:sI rest<;>simp only[hi,cond_true,cond_false]at h2;obtain ⟨cells,nk,kd,n,g1,g2,g3,g4,g5⟩:=h2;have mu:=hr.sat.site _ _ _ g1;have gk:=hr.sat.g8 _ _ _ (H5 g1);rw[mu]at gk;simp only[C4.g8,OO g2]at gk;have gv:xs.map st.ev = .ptr s (σ key 0).2 0 0::rest:=by
    rw[h1,ta,IB,mu,AeP hi]
   have hE:=g4 (σ key 0).2 (st.own s) gk;refine Ais hg (by rw[gv];exact hE) ?_;rw[vY];have:=hk σ (.int kd n) (.int kd n) _ _ g5 rfl (hr.stq g1 trivial (.bx nk) trivial (λ h=>by cases h))
   simp only[C4.g8,OO g3]at this;cases d<;>exact this
  ·exact h2.elim
theorem Api (hr:RX σ tm M st) {g:Nat} {w:Bool} {b:Bool} (e:tg tm g = .bool b):JP st (some (g,w))=some (b == w):=by
 rcases hr.tm g with h|h
 ·rw[e]at h;cases h
 ·rw[e]at h
  simp only[JP,h,MX]
theorem Apj (hr:RX σ tm M st) {g:Nat} {w:Bool} (e:tg tm g = .e9 []):JP st (some (g,w))=some false:=by
 rcases hr.tm g with h|h
 ·rw[e]at h;cases h
 ·rw[e]at h
  simp only[JP,h,QE,xd]
theorem Abx {key:Nat} : ∀ (tm:Tm) (j:Nat),tg (Qx key tm) j = .any\/tg (Qx key tm) j=tg tm j
 | [],_=>Or.inl rfl
 | (i,v)::r,j=>by
  simp only[Qx];cases hc:aB key v<;>cases hb:Wa j i;all_goals simp only[cond_true,cond_false,tg,hb]
  ·exact Abx r j
  ·exact Or.inr trivial
  ·exact Abx r j
  ·exact Or.inl trivial
theorem Atf {v:AV} {K:Tm->Prop} (h:xk v tm K) : ∃ gu,(∀ j,tg gu j = .any\/tg gu j=tg tm j)/\K gu:=by
 unfold xk at h;split at h
 ·rw[jT]at h
  exact ⟨_,λ j=>Abx _ j,h⟩
 ·exact ⟨_,λ j=>Or.inr rfl,h⟩
theorem Ace {k:List It} {Q:Tm->Mem->Prop} : ∀ {l:List AI} {K:Tm->Mem->Prop} {tm:Tm} {M:Mem},XO L l K tm M->(∀ gu M',K gu M'->AJ L k gu M' Q)->AOM L l k tm M Q
 | [],K,tm,M,h,hk=>λ σ st hr=>Ait.2 (hk tm M h σ st hr)
 | o::l,K,tm,M,h,hk=>by
  intro σ st hr;have h:XI L o (XO L l) K tm M:=h;have ih : ∀ gu M',XO L l K gu M'->AOM L l k gu M' Q:=λ gu M' h'=>Ace h' hk
  have some_ : ∀ (d:Nat) (op:HO) (g:Option (Nat × Bool)) (b8:a_),JP st g=some true->XE L tm M b8 (λ v M=>XO L l K ((d,v)::tm) M) op->AO L (⟨some d,op,g,b8⟩::l) k st (SQ Q):=by
   intro d op g b8 hg hx;refine vU hr hx hg ?_;intro σ' v v' M' m8 h1 h2 h3;exact ih _ _ h1 σ' _ (h3.put d h2)
  have Oy : ∀ (d:Nat) (u:AV) (op:HO) (b8:a_),XE L tm M b8 (λ v M=>xk u tm λ tm=>XO L l K ((d,v)::tm) M) op->AO L (⟨some d,op,none,b8⟩::l) k st (SQ Q):=by
   intro d u op b8 hx;refine vU hr hx rfl ?_;intro σ' v v' M' m8 h1 h2 h3;obtain ⟨gu,g1,g2⟩:=Atf h1;exact ih _ _ g2 σ' _ ((show RX σ' gu M' ⟨st.tm,m8⟩ from ⟨λ j=>(g1 j).elim Or.inl λ e=>by rw[e];exact h3.tm j,h3.sat⟩).put d h2)
  have none_ : ∀ (op:HO) (g:Option (Nat × Bool)) (b8:a_),JP st g=some true->XE L tm M b8 (λ_ M=>XO L l K tm M) op->AO L (⟨none,op,g,b8⟩::l) k st (SQ Q):=by
   intro op g b8 hg hx;refine vU hr hx hg ?_;intro σ' v v' M' m8 h1 h2 h3;exact ih _ _ h1 σ' _ h3
  have Kv : ∀ (d:Option Nat) (op:HO) (g:Option (Nat × Bool)) (b8:a_),JP st g=some false->(match d with|some d=>XO L l K ((d,.e9 [])::tm) M|none=>XO L l K tm M)->AO L (⟨d,op,g,b8⟩::l) k st (SQ Q):=by
   intro d op g b8 hg hx;rw[Aiw hg];cases d with
   | none=>exact ih _ _ hx σ _ hr
   | some d=>exact ih _ _ hx σ _ (hr.put d rfl)
  obtain ⟨d,op,g,b8⟩:=o;cases g with
  | none =>
   cases d with
   | none=>exact none_ op none b8 rfl h
   | some d =>
    cases op with
    | app s z b x y=>exact Oy d (ex tm x) (.app s z b x y) b8 h
    | _=>exact some_ d _ none b8 rfl h
  | some gw =>
   obtain ⟨g,w⟩:=gw;have h:(match tg tm g with
    | .bool b=>fB (b == w) λ c=>match c,d with
     | true,some d=>XE L tm M b8 (λ v M=>XO L l K ((d,v)::tm) M) op
     | true,none=>XE L tm M b8 (λ_ M=>XO L l K tm M) op
     | false,some d=>XO L l K ((d,.e9 [])::tm) M
     | false,none=>XO L l K tm M
    | .e9 []=>match d with
     | some d=>XO L l K ((d,.e9 [])::tm) M
     | none=>XO L l K tm M
    | _=>False):=by cases d<;>cases op<;>exact h
   split at h
   ·rename_i b e
    rw[ZC]at h;have hg:=Api hr (w:=w) e;cases hb:(b == w)<;>rw[hb]at h hg
    ·exact Kv d op _ b8 hg (by cases d<;>exact h)
    ·cases d with
     | none=>exact none_ op _ b8 hg h
     | some d=>exact some_ d op _ b8 hg h
   ·rename_i e
    exact Kv d op _ b8 (Apj hr e) (by cases d<;>exact h)
   ·exact h.elim
theorem vV {Q:Tm->Mem->Prop} : ∀ {n:Nat} {k:List It} {tm:Tm} {M:Mem},XK L Q n k tm M->AJ L k tm M Q
 | 0,k,tm,M,h=>h
 | n+1,[],tm,M,h=>λ σ st hr=>Aid.2 ⟨σ,tm,M,hr,h⟩
 | n+1,it::k,tm,M,h=>by
  have h:XS L Q (XK L Q n) (it::k) tm M:=h;have ih : ∀ k tm M,XK L Q n k tm M->AJ L k tm M Q:=λ k tm M h=>vV h
  intro σ st hr;cases it with
  | g8 id=>exact Ah5.2 (ih _ _ _ h σ st hr)
  | tu ts ss =>
   simp only[XS,AoT,jT]at h;cases ss with
   | cons s r=>exact h.elim
   | nil =>
    refine Ah9.2 (ih _ _ _ h σ _ ⟨λ j => ?_,hr.sat⟩);rw[oZ,kY,Acr,wB,Bool.false_or];cases hc:ts.contains j
    ·simp only[Bool.false_eq_true,if_false,cond_false]
     exact hr.tm j
    ·exact Or.inl rfl
  | lp c=>exact h σ st hr
  | code c =>
   cases c with
   | skip=>exact Aii.2 (ih _ _ _ h σ st hr)
   | ops l d=>exact Aie.2 (Ace h (λ gu M' h'=>ih _ _ _ h') σ st hr)
   | dr c ts ss=>exact Ah8.2 (ih _ _ _ h σ st hr)
   | scope c=>exact Aig.2 (ih _ _ _ h σ st hr)
   | seq a b=>exact Aih.2 (ih _ _ _ h σ st hr)
   | cond x a b =>
    simp only[XS]at h;split at h
    ·rename_i b' e
     rw[ZC]at h;rw[Ah7 (hr.ev e O_)];cases b'
     ·simpa using ih _ _ _ h σ st hr
     ·simpa using ih _ _ _ h σ st hr
    ·exact h.elim
   | block id c=>exact Ah6.2 (ih _ _ _ h σ st hr)
   | loop c=>exact Aib.2 (AbL.1 (h σ st hr))
   | exit id =>
    simp only[XS]at h;split at h
    ·rename_i k' e
     exact (Aia e).2 (ih _ _ _ h σ st hr)
    ·exact h.elim
   | ret=>exact Aif.2 ⟨σ,tm,M,hr,h⟩
theorem ArL (hr:RX σ tm M st) {r:Q7} {K:AV->Prop} (h:oL tm M r K) : ∃ v,JL st r=some (DJ σ v)/\K v/\DJ σ v=DM σ v:=by
 cases r with
 | tmp t =>
  simp only[oL]at h;obtain ⟨h1,h2,h3⟩:=Ael (σ:=σ) h;refine ⟨_,?_,h3,h2⟩;rcases hr.tm t with e|e
  ·exact absurd e h1
  ·simp only[JL,e]
   cases hv:tg tm t<;>rw[hv]at h h1<;>first|rfl|exact (h:False).elim
 | cell t agg n =>
  simp only[oL]at h;split at h
  ·rename_i key i j e
   split at h
   ·rename_i s cs hm
    cases hi:Wa i 0<;>simp only[hi,cond_true,cond_false]at h;obtain rfl:=DY.1 hi;split at h
    ·rename_i ds hp
     rw[ME]at h;rcases hr.tm t with e'|e'
     ·rw[e]at e';cases e'
     ·have hs:=hr.sat.site _ _ _ hm
      have gk:=hr.sat.g8 _ _ _ (H5 hm);rw[hs]at gk;have flat : ∀ v,RH agg (ds.map (C3 σ))=some (DJ σ v)->JL st (.cell t agg n)=some (DJ σ v):=by
       intro v hv;simp only[JL,e',e,IB,BF.As,BF.get,hs,gk,C4.g8,Je,tK hp,hv]
      cases agg
      ·simp only[Av]at h
       split at h
       ·rename_i c
        obtain ⟨_,h1,h2⟩:=Aem (σ:=σ) h;refine ⟨c,flat c (by rw[h1];rfl),h2,?_⟩;rw[h1];cases c<;>first|rfl|exact (h:False).elim
       ·exact h.elim
      ·exact ⟨.agg ds,flat _ rfl,h,rfl⟩
    ·exact h.elim
   ·exact h.elim
  ·exact h.elim
theorem Wy (hr:RX σ tm M st) : ∀ {l:List Q7} {K:d_->Prop},tU tm M l K -> ∃ vs,l.mapM (JL st)=some (vs.map (DJ σ))/\K vs/\vs.map (DJ σ)=vs.map (DM σ)
 | [],K,h=>⟨[],rfl,h,rfl⟩
 | r::l,K,h=>by
  obtain ⟨v,h1,h2,h3⟩:=ArL hr (show oL tm M r λ v=>tU tm M l λ vs=>K (v::vs) from h);obtain ⟨vs,h4,h5,h6⟩:=Wy hr h2;exact ⟨v::vs,by rw[Gb,h1,h4];rfl,h5,by rw[ta,ta,h3,h6]⟩
theorem AgG (hs:LO σ st.own M) {q:Bool} : ∀ {l:d_} {K:d_->Prop},Abi q M l K -> ∃ l',(l.map (DJ σ)).mapM (F4 st.own q)=some l'/\K l' /\ ∀ v∈l,DJ σ v=DM σ v
 | [],K,h=>⟨[],rfl,h,λ v hv=>by cases hv⟩
 | v::r,K,h=>by
  obtain ⟨v',h1,h2,_,h0⟩:=uI hs (show ZZ q M [] v λ v'=>Abi q M r λ r'=>K (v'::r') from h);obtain ⟨l',h3,h4,h5⟩:=AgG hs h2;refine ⟨v'::l',?_,h4,λ u hu => ?_⟩
  ·rw[ta,Gb,show F4 st.own q (DJ σ v)=some v' from h1,h3];rfl
  ·rcases Gc.1 hu with rfl|hu
   ·exact h0
   ·exact h5 u hu
theorem Ask {own:BF} {q:Bool} {v v':AV} (h:F4 own q v=some v'):dN own q v=some v':=by
 cases v with
 | e9 vs=>simp [F4,snap]at h
 | _=>exact h
theorem AqB {f:AV->Option AV} {x y:AV} {r l':d_} (h:(x::y::r).mapM f=some l') : ∃ a b c,l'=a::b::c:=by
 rw[Gb,Gb]at h;cases hx:f x with
 | none=>rw[hx]at h;cases h
 | some a =>
  cases hy:f y with
  | none=>rw[hx,hy]at h;cases h
  | some b =>
   cases hr:r.mapM f with
   | none=>rw[hx,hy,hr]at h;cases h
   | some c =>
    rw[hx,hy,hr]at h;exact ⟨a,b,c,(Fb h).symm⟩
theorem Ab7 {fn:AFn} {r:AV} (hr:RX σ tm M st) (h:aA fn r tm M):lM fn r st:=by
 unfold aA at h;obtain ⟨vs,h1,h2,h3⟩:=Wy hr h;obtain ⟨l',h4,h5,h6⟩:=AgG hr.sat h2;unfold lM;rw[h1,Wb,Option.bind_some];match vs,l',h4,h5 with
 | [],l',h4,h5 =>
  obtain rfl:=Fb h4;obtain ⟨e,hc⟩:=h5;exact ⟨by rw[<-e];rfl,hc⟩
 | [v],l',h4,h5 =>
  rw[ta,xd,Gb]at h4;cases hv:F4 st.own false (DJ σ v) with
  | none=>rw[hv]at h4;cases h4
  | some v' =>
   rw[hv]at h4;obtain rfl:=Fb h4;obtain ⟨e,hc⟩:=h5;exact ⟨by rw[<-e];exact Ask hv,hc⟩
 | v::u::w,l',h4,h5 =>
  obtain ⟨a,b,c,rfl⟩:=AqB (show Ig (F4 st.own false) (DJ σ v::DJ σ u::w.map (DJ σ))=some l' from h4);obtain ⟨e,hc⟩:=h5;refine ⟨?_,hc⟩;rw[<-e];have h4:Ig (F4 st.own false) (DJ σ v::DJ σ u::w.map (DJ σ))=some (a::b::c):=h4;show Option.map AV.e9 (Ig (F4 st.own false) (DJ σ v::DJ σ u::w.map (DJ σ)))=_;rw[h4];rfl
def aJ:AV->Bool
 | .agg cs=>HR cs
 | v=>Df v
def R5:d_->Bool
 | []=>true
 | v::r=>bif aJ v then R5 r else false
theorem rG {v:AV} (h:aJ v=true):DJ σ v=v:=by
 cases v with
 | agg cs=>simp only[aJ]at h;simp only[DJ,DM,OO h]
 | _=>first|rfl|cases h
theorem mE {σ:JF} : ∀ {vs:d_} {i:Nat},R5 vs=true -> ∀ j,j6 (FK i vs) j=DJ σ (j6 (FK i vs) j)
 | [],_,_,_=>rfl
 | v::r,i,h,j=>by
  simp only[R5]at h;cases hv:aJ v<;>simp only[hv,cond_true,cond_false]at h
  ·cases h
  ·simp only[ApQ,pC]
   split
   ·exact (rG hv).symm
   ·exact mE h j
theorem J8.x {f:Nat} {fn:AFn} {vs:d_} {r:AV} (hL:L f=some fn) (hp:Wa vs.length fn.gq=true) (hd:R5 vs=true) (h:AJ L [.code fn.body] (FK 0 vs) [] (aA fn r)):J8 L f vs r:=by
 refine J8.fwd hL (DY.1 hp) (Aic (h (λ_ _=>(0,0)) ⟨FK 0 vs,BF.emp⟩ ⟨λ j=>Or.inr ?_,?_⟩) ?_)
 ·rw[RM];exact mE hd j
 ·exact ⟨(λ_ _ _ e=>by cases e),(λ_ _ _ e=>by simp [b7,c7]at e),(λ_ _ _ e=>by simp [b7,c7]at e),(λ_ _ _ _ _ _ e=>by simp [b7,c7]at e),(λ_ _ _ e=>by simp [b7,c7]at e)⟩
 ·rintro s ⟨σ,tm,M,hr,hq⟩
  exact Ab7 hr hq
theorem Ev.x {f:Nat} {fn:AFn} {vs:d_} {r:AV} (hL:L f=some fn) (hp:Wa vs.length fn.gq=true) (hd:R5 vs=true) (h:AJ L [.code fn.body] (FK 0 vs) [] (aA fn r)) (hs:fn.Ay=false:=by rfl):Ev L f vs r:=(J8.x hL hp hd h).ev hL hs
def KU:List (Nat × Nat)->Nat->Nat
 | [],k=>k
 | (a,b)::r,k=>bif Wa k a then b else KU r k
def tW (τ:List (Nat × Nat)):AV->AV
 | .row k t z o n => .row (KU τ k) t z o n
 | .ptr k t i j => .ptr (KU τ k) t i j
 | v=>v
def dK (τ:List (Nat × Nat)):d_->d_
 | []=>[]
 | v::r=>tW τ v::dK τ r
def kR (τ:List (Nat × Nat)):AV->AV
 | .agg cs => .agg (dK τ cs)
 | .fn p f g cs => .fn p f g (dK τ cs)
 | v=>tW τ v
def tY (τ:List (Nat × Nat)):d_->d_
 | []=>[]
 | v::r=>kR τ v::tY τ r
def tX (τ:List (Nat × Nat)):AV->AV
 | .e9 cs => .e9 (tY τ cs)
 | v=>kR τ v
def tZ (τ:List (Nat × Nat)):c_->c_
 | []=>[]
 | v::r=>dK τ v::tZ τ r
def RJ (τ:List (Nat × Nat)):C4->C4
 | .bx cs => .bx (dK τ cs)
 | .rw z es => .rw z es
 | .bs z es => .bs z (tZ τ es)
 | .mx rows => .mx rows
 | .hx i v rows => .hx i v rows
 | .vw w rows => .vw w rows
variable {τ:List (Nat × Nat)}
theorem oM : ∀ l:d_,dK τ l=l.map (tW τ)
 | []=>rfl
 | v::r=>by rw[dK,oM r];rfl
theorem Agg : ∀ l:d_,tY τ l=l.map (kR τ)
 | []=>rfl
 | v::r=>by rw[tY,Agg r];rfl
theorem uO (v:AV):C3 (λ k t=>σ (KU τ k) t) v=C3 σ (tW τ v):=by cases v<;>rfl
theorem Abs (v:AV):DM (λ k t=>σ (KU τ k) t) v=DM σ (kR τ v):=by
 cases v with
 | agg cs=>simp only[DM,kR,oM,Gd];exact congrArg AV.agg (ec λ v _=>uO v)
 | fn p f g cs=>simp only[DM,kR,oM,Gd];exact congrArg (AV.fn p f g) (ec λ v _=>uO v)
 | _=>rfl
theorem Ast (v:AV):DJ (λ k t=>σ (KU τ k) t) v=DJ σ (tX τ v):=by
 cases v with
 | e9 cs=>simp only[DJ,tX,Agg,Gd];exact congrArg AV.e9 (ec λ v _=>Abs v)
 | agg cs=>exact Abs (.agg cs)
 | fn p f g cs=>exact Abs (.fn p f g cs)
 | _=>rfl
theorem Agh : ∀ l:c_,tZ τ l=l.map (dK τ)
 | []=>rfl
 | v::r=>by rw[tZ,Agh r];rfl
theorem nI {k:Nat} : ∀ (rows:List (b_)) (i:Nat),EN (λ k t=>σ (KU τ k) t) k i rows=EN σ (KU τ k) i rows
 | [],i=>rfl
 | none::r,i=>by rw[EN,EN,nI r]
 | some (z,es)::r,i=>by rw[EN,EN,nI r]
theorem AkL (c:C4) (k:Nat):c.g8 (λ k t=>σ (KU τ k) t) k=(RJ τ c).g8 σ (KU τ k):=by
 cases c with
 | bx cs =>
  simp only[C4.g8,RJ,oM,xc,Gd];rw[ec λ v _=>uO v];rfl
 | rw z es=>rfl
 | bs z es =>
  simp only[C4.g8,RJ,Agh,Gd];congr 1;refine ec λ cs _ => ?_
  simp only[Lh,oM,Gd];exact ec λ v _=>uO v
 | mx rows=>simp only[C4.g8,RJ,nI]
 | hx i v rows=>simp only[C4.g8,RJ,nI]
 | vw w rows=>simp only[C4.g8,RJ,nI]
def Fe (k s:Nat) (c:C4):Mem->Mem
 | []=>[(k,s,c)]
 | (j,s',c')::r=>bif Wa k j then (k,s,c)::r else (j,s',c')::Fe k s c r
def Cj:Mem->Mem
 | []=>[]
 | (k,s,c)::r=>Fe k s c (Cj r)
def kB:Mem->(Mem->Prop)->Prop
 | [],K=>K []
 | (k,s,c)::r,K=>kB r λ r'=>fM (Fe k s c r') K
theorem sO : ∀ (M:Mem) (K:Mem->Prop),kB M K=K (Cj M)
 | [],_=>rfl
 | (k,s,c)::r,K=>by rw[kB,sO r,ZE];rfl
theorem Afn (k s:Nat) (c:C4) (j:Nat) : ∀ M:Mem,c7 (Fe k s c M) j=bif Wa j k then some (s,c) else c7 M j
 | []=>rfl
 | (i,s',c')::r=>by
  simp only[Fe];cases hk:Wa k i
  ·simp only[cond_false,c7,Afn k s c j r]
   cases hj:Wa j i<;>cases hjk:Wa j k<;>simp only[cond_true,cond_false];exact absurd ((DY.1 hjk).symm.trans (DY.1 hj)) (JN.1 hk)
  ·obtain rfl:=DY.1 hk
   simp only[cond_true,c7];cases Wa j k<;>rfl
theorem kC (j:Nat) : ∀ M:Mem,c7 (Cj M) j=c7 M j
 | []=>rfl
 | (k,s,c)::r=>by simp only[Cj,Afn,kC j r,c7]
theorem sR (k t:Nat):b7 (Cj M) k t=b7 M k t:=by simp only[b7,kC]
def Ix (τ:List (Nat × Nat)) (M:Mem):List (Nat × Nat × C4)->List (Option (Nat × C4))
 | []=>[]
 | (k,_,_)::r=>c7 M (KU τ k)::Ix τ M r
def Iy (τ:List (Nat × Nat)):List (Nat × Nat × C4)->List (Option (Nat × C4))
 | []=>[]
 | (_,s,c)::r=>some (s,RJ τ c)::Iy τ r
def Wu (tm:Tm):Tm->d_
 | []=>[]
 | (j,_)::r=>tg tm j::Wu tm r
def Wv (τ:List (Nat × Nat)):Tm->d_
 | []=>[]
 | (_,v)::r=>tX τ v::Wv τ r
def sW:a_->Bool
 | []=>true
 | k::r=>bif RG k r then false else sW r
def keys (τ:List (Nat × Nat)):Mem->a_
 | []=>[]
 | (k,_,_)::r=>KU τ k::keys τ r
theorem Afm : ∀ {M':Mem} {M:Mem},Ix τ M M'=Iy τ M' -> ∀ k s c,c7 M' k=some (s,c)->c7 M (KU τ k)=some (s,RJ τ c)
 | [],_,_,_,_,_,e=>by cases e
 | (i,s',c')::r,M,h,k,s,c,e=>by
  simp only[Ix,Iy,Sf]at h;simp only[c7]at e;cases hb:Wa k i<;>simp only[hb,cond_true,cond_false]at e
  ·exact Afm h.2 k s c e
  ·simp only[ka,oc]at e
   obtain ⟨rfl,rfl⟩:=e;rw[DY.1 hb];exact h.1
theorem Zf : ∀ {M:Mem} {k s:Nat} {c:C4},c7 M k=some (s,c)->RG (KU τ k) (keys τ M)=true
 | (i,s',c')::r,k,s,c,e=>by
  simp only[c7]at e;simp only[keys,RG];cases hb:Wa k i<;>simp only[hb,cond_true,cond_false]at e
  ·rw[Zf e];cases Wa (KU τ k) (KU τ i)<;>rfl
  ·rw[DY.1 hb];simp
theorem AfC : ∀ {M:Mem},sW (keys τ M)=true -> ∀ {k k' s s':Nat} {c c':C4},c7 M k=some (s,c)->c7 M k'=some (s',c')->KU τ k=KU τ k'->k=k'
 | [],_,_,_,_,_,_,_,e,_,_=>by cases e
 | (i,s0,c0)::r,h,k,k',s,s',c,c',e,e',hk=>by
  simp only[keys,sW]at h;cases hm:RG (KU τ i) (keys τ r)<;>simp only[hm,cond_true,cond_false]at h
  ·simp only[c7]at e e'
   cases hb:Wa k i<;>cases m9:Wa k' i<;>simp only[hb,m9,cond_true,cond_false]at e e'
   ·exact AfC h e e' hk
   ·obtain rfl:=DY.1 m9
    have:=Zf (τ:=τ) e
    rw[hk,hm]at this;cases this
   ·obtain rfl:=DY.1 hb
    have:=Zf (τ:=τ) e'
    rw[<-hk,hm]at this;cases this
   ·exact (DY.1 hb).trans (DY.1 m9).symm
  ·cases h
theorem Ahd : ∀ {gu:Tm} {tm:Tm},Wu tm gu=Wv τ gu -> ∀ j,tg gu j = .any\/tg tm j=tX τ (tg gu j)
 | [],_,_,_=>Or.inl rfl
 | (i,v)::r,tm,h,j=>by
  simp only[Wu,Wv,Sf]at h;simp only[tg];cases hb:Wa j i<;>simp only[cond_true,cond_false]
  ·exact Ahd h.2 j
  ·rw[DY.1 hb];exact Or.inr h.1
def bp (ts:a_) (tm:Tm):Tm:=match ts with
 | []=>tm
 | t::ts=>Fk (mask 0 (t::ts)) tm
def Q8 (τ:List (Nat × Nat)) (tm:Tm) (M:Mem) (gu:Tm) (M':Mem):Prop :=
 fT (Fk 0 gu) λ l=>kB M' λ m=>Wu tm l=Wv τ l/\Ix τ M m=Iy τ m/\sW (keys τ m)=true
theorem EA {k:List It} {gu:Tm} {M':Mem} {Q:Tm->Mem->Prop} (τ:List (Nat × Nat)) (he:Q8 τ tm M gu M') (h:AJ L k gu M' Q):AJ L k tm M Q:=by
 unfold Q8 at he;rw[jT,sO]at he;obtain ⟨ht,hm,hn⟩:=he;intro σ st hr;have hg : ∀ k s c,c7 M' k=some (s,c)->c7 M (KU τ k)=some (s,RJ τ c):=λ k s c e=>Afm hm k s c (by rw[kC];exact e)
 have vj : ∀ k t c,b7 M' k t=some c->b7 M (KU τ k) t=some (RJ τ c):=by
  intro k t c e;obtain ⟨s,c0,g1,g2,g3⟩:=LR e;have:=hg k s c0 g1
  cases t with
  | zero=>rw[g2 rfl];exact H5 this
  | succ i =>
   obtain ⟨rows,z,es,(rfl|⟨a,v,rfl⟩)|⟨w,rfl⟩,hr,rfl⟩:=g3 i rfl
   ·simp [b7,this,RJ,hr]
   ·simp [b7,this,RJ,hr]
   ·simp [b7,this,RJ,hr]
 refine h (λ k t=>σ (KU τ k) t) st ⟨λ j => ?_,⟨?_,?_,?_,?_,?_⟩⟩
 ·have:=Ahd ht j
  rw[oZ,wB,cond_false]at this;rcases this with e|e
  ·exact Or.inl e
  ·rcases hr.tm j with e'|e'
   ·left
    rw[e']at e;cases hv:tg gu j<;>rw[hv]at e<;>first|rfl|cases e
   ·right
    rw[e',e,Ast]
 ·intro k s c e;exact hr.sat.site _ _ _ (hg k s c e)
 ·intro k t c e;rw[AkL];exact hr.sat.g8 _ _ _ (vj k t c e)
 ·intro k t c e;exact hr.sat.old _ _ _ (vj k t c e)
 ·intro k t k' t' c c' e e' hk
  obtain ⟨q1,q2⟩:=hr.sat.inj _ _ _ _ _ _ (vj _ _ _ e) (vj _ _ _ e') hk;obtain ⟨s,c0,g,_⟩:=LR e;obtain ⟨s',c0',g',_⟩:=LR e';exact ⟨AfC hn (by rw[kC];exact g) (by rw[kC];exact g') q1,q2⟩
 ·intro k t c e hw
  exact hr.sat.low _ _ _ (vj k t c e) (by cases c<;>exact hw)
theorem DB {k:List It} {gu:Tm} {M':Mem} {Q:Tm->Mem->Prop} (τ:List (Nat × Nat)) (h:AJ L k gu M' Q) (he:Q8 τ tm M gu M':=by (conv=>whnf);exact ⟨rfl,rfl,rfl⟩):AJ L k tm M Q:=EA τ he h
theorem AbJ {k:List It} {Q:Tm->Mem->Prop} (h:AJ L k (Fk 0 tm) (Cj M) Q):AJ L k tm M Q:=by
 intro σ st hr;refine h σ st ⟨λ j => ?_,⟨?_,?_,?_,?_,?_⟩⟩
 ·rw[oZ,wB,cond_false];exact hr.tm j
 ·intro k s c e;rw[kC]at e;exact hr.sat.site _ _ _ e
 ·intro k t c e;rw[sR]at e;exact hr.sat.g8 _ _ _ e
 ·intro k t c e;rw[sR]at e;exact hr.sat.old _ _ _ e
 ·intro k t k' t' c c' e e' hk
  rw[sR]at e e';exact hr.sat.inj _ _ _ _ _ _ e e' hk
 ·intro k t c e hw;rw[sR]at e;exact hr.sat.low _ _ _ e hw
def Fh (k:Nat) (c:C4):Mem->Mem
 | []=>[]
 | (j,s,c')::r=>bif Wa k j then (j,s,c)::r else (j,s,c')::Fh k c r
theorem sP {k j s:Nat} {c c':C4} : ∀ {M:Mem},c7 (Fh k c M) j=some (s,c') -> ∃ c0,c7 M j=some (s,c0)/\(c0=c'\/(j=k/\c'=c))
 | [],e=>by cases e
 | (i,s0,c0)::r,e=>by
  simp only[Fh]at e;cases hk:Wa k i<;>simp only[hk,cond_true,cond_false,c7]at e ⊢
  ·cases hj:Wa j i<;>simp only[hj,cond_true,cond_false]at e ⊢
   ·exact sP e
   ·exact ⟨c',e,Or.inl rfl⟩
  ·cases hj:Wa j i<;>simp only[hj,cond_true,cond_false]at e ⊢
   ·exact ⟨c',e,Or.inl rfl⟩
   ·simp only[ka,oc]at e
    obtain ⟨rfl,rfl⟩:=e;exact ⟨c0,rfl,Or.inr ⟨(DY.1 hj).trans (DY.1 hk).symm,rfl⟩⟩
theorem pJ {kk:List It} {Q:Tm->Mem->Prop} (k s:Nat) (e:c7 M k=some (s,.rw 1 [])) (h:AJ L kk tm (Fh k (.mx []) M) Q):AJ L kk tm M Q:=by
 intro σ st hr;have hg : ∀ j t c,b7 (Fh k (.mx []) M) j t=some c -> ∃ c0,b7 M j t=some c0/\c0.g8 σ j=c.g8 σ j:=by
  intro j t c g;obtain ⟨s1,c1,g1,g2,g3⟩:=LR g;obtain ⟨c0,q1,q2⟩:=sP g1;cases t with
  | zero =>
   rw[g2 rfl];rcases q2 with rfl|⟨rfl,rfl⟩
   ·exact ⟨_,H5 q1,rfl⟩
   ·rw[e]at q1
    simp only[ka,oc]at q1;obtain ⟨rfl,rfl⟩:=q1;exact ⟨_,H5 e,rfl⟩
  | succ i =>
   obtain ⟨rows,z,es,(rfl|⟨a,v,rfl⟩)|⟨w,rfl⟩,Nv,rfl⟩:=g3 i rfl
   ·rcases q2 with rfl|⟨rfl,h0⟩
    ·exact ⟨.rw z es,by simp [b7,q1,Nv],rfl⟩
    ·obtain rfl:rows=[]:=by simpa using h0
     simp at Nv
   ·rcases q2 with rfl|⟨rfl,h0⟩
    ·exact ⟨.rw z es,by simp [b7,q1,Nv],rfl⟩
    ·cases h0
   ·rcases q2 with rfl|⟨rfl,h0⟩
    ·exact ⟨.rw z es,by simp [b7,q1,Nv],rfl⟩
    ·cases h0
 refine h σ st ⟨hr.tm,⟨?_,?_,?_,?_,?_⟩⟩
 ·intro j s' c g
  obtain ⟨c0,q1,_⟩:=sP g;exact hr.sat.site _ _ _ q1
 ·intro j t c g
  obtain ⟨c0,q1,q2⟩:=hg j t c g;rw[<-q2];exact hr.sat.g8 _ _ _ q1
 ·intro j t c g
  obtain ⟨c0,q1,_⟩:=hg j t c g;exact hr.sat.old _ _ _ q1
 ·intro j t j' t' c c' g g' hj
  obtain ⟨_,q1,_⟩:=hg j t c g;obtain ⟨_,q2,_⟩:=hg j' t' c' g';exact hr.sat.inj _ _ _ _ _ _ q1 q2 hj
 ·intro j t c g hw
  cases t with
  | zero =>
   obtain ⟨s1,c1,g1,g2,g3⟩:=LR g;obtain ⟨c0,q1,q2⟩:=sP g1;have g2:=g2 rfl;subst g2;rcases q2 with rfl|⟨rfl,rfl⟩
   ·exact hr.sat.low _ _ _ (H5 q1) hw
   ·exact hr.sat.low _ _ _ (H5 e) rfl
  | succ t =>
   obtain ⟨c0,q1,_⟩:=hg _ _ _ g;exact hr.sat.low _ _ _ q1 (sS q1)
theorem QH {k:List It} {c:DE} {Q:Tm->Mem->Prop} (h:AJ L (.code c :: .lp c::k) tm M Q):AJ L (.lp c::k) tm M Q:=λ σ st hr=>AbL.2 (h σ st hr)
theorem iQ {α:Type} {k:List It} {c:DE} {Q:Tm->Mem->Prop} (m:α->Nat) (P:α->Prop) (vs:α->Tm) (Ms:α->Mem) (ts:a_) (τ:List (Nat × Nat)) (a:α)
  (he:Q8 τ tm M (vs a++bp ts tm) (Ms a++M)) (hp:P a)
  (step : ∀ a,P a->(∀ a',m a'<m a->P a'->AJ L (.lp c::k) (vs a'++bp ts tm) (Ms a'++M) Q)->AJ L (.code c :: .lp c::k) (vs a++bp ts tm) (Ms a++M) Q):AJ L (.lp c::k) tm M Q:=by
 have key : ∀ n a,m a<n->P a->AJ L (.lp c::k) (vs a++bp ts tm) (Ms a++M) Q:=by
  intro n;induction n with
  | zero=>intro a h;omega
  | succ n ih =>
   intro a ha hp;exact QH (step a hp λ a' h1 h2=>ih a' D' h2)
 exact EA τ he (key (m a+1) a D' hp)
end
end Go.j4

namespace Go.j4
section
variable {α:Type} {enc:α->d_} {l:List α} {L:Lib}
theorem A7 {p q A B:Prop} (h1:p->A) (h2:q->B):A5 p q A B:=⟨h1,h2⟩
theorem CB {p A:Prop} (h1:p) (h2:A):BZ p A:=⟨h1,h2⟩
section
variable {K:AV->Prop} {a b:Int} {k k':IntKind} {op:BinOp}
theorem pY {v:AV} (h:G5 op k a k' b=some v) (hk:K v):A0 op k a k' b K:=⟨v,h,hk⟩
theorem B5 (hr : -9223372036854775808<=a+b/\a+b<=9223372036854775807) (hk:K (.int .i64 (a+b))):A0 .add .i64 a .i64 b K:=⟨_,by simp only[G5,if_true];rw[IntWalk.i64_in _ hr],hk⟩
theorem EP (hr : -9223372036854775808<=a-b/\a-b<=9223372036854775807) (hk:K (.int .i64 (a-b))):A0 .sub .i64 a .i64 b K:=⟨_,by simp only[G5,if_true];rw[IntWalk.i64_in _ hr],hk⟩
theorem LN (hr : -9223372036854775808<=a*b/\a*b<=9223372036854775807) (hk:K (.int .i64 (a*b))):A0 .mul .i64 a .i64 b K:=⟨_,by simp only[G5,if_true];rw[IntWalk.i64_in _ hr],hk⟩
theorem qE (hb:0<b) (h1:(0<=a\/a%b=0)->0<=a%b->a%b<b->K (.int .i64 (a%b))) (h2:a<0->a%b≠0->0<=a%b->a%b<b->K (.int .i64 (a%b-b))):A0 .rem .i64 a .i64 b K:=by
 have h5:0<=a%b:=Int.emod_nonneg _ D';have h6:a%b<b:=Int.emod_lt_of_pos _ hb;have e:G5 .rem .i64 a .i64 b=some (.int .i64 (a.tmod b)):=by simp only[G5];rw[if_pos ⟨trivial,D'⟩]
 by_cases hc:0<=a\/a%b=0
 ·rw[Ahe hb,if_pos hc]at e
  exact ⟨_,e,h1 hc h5 h6⟩
 ·rw[Ahe hb,if_neg hc]at e
  exact ⟨_,e,h2 D' D' h5 h6⟩
theorem VY (hb:0<b) (ha : -9223372036854775808<=a/\a<=9223372036854775807) (h1:(0<=a\/a%b=0)->K (.int .i64 (a/b))) (h2:a<0->a%b≠0->K (.int .i64 (a/b+1))):A0 .quo .i64 a .i64 b K:=by
 have hr:=Am3 (m:=b) D' ha;have e:G5 .quo .i64 a .i64 b=some (.int .i64 (IntKind.i64.wrap (a.tdiv b))):=by simp only[G5];rw[if_pos ⟨trivial,D'⟩]
 by_cases hc:0<=a\/a%b=0
 ·rw[Ahb hb,if_pos hc,IntWalk.i64_in _ hr]at e
  exact ⟨_,e,h1 hc⟩
 ·have ANG:a/b<0:=Int.ediv_neg_of_neg_of_pos D' hb
  rw[Ahb hb,if_neg hc,IntWalk.i64_in _ D']at e;exact ⟨_,e,h2 D' D'⟩
theorem Aje (h:0<=b/\b<=63) (hk:K (.int .i64 (a/pw b))):A0 .shr .i64 a k' b K:=⟨_,Asa h,hk⟩
theorem Ajk (hk:K (.int k (k.wrap (a+b)))):A0 .add k a k b K:=⟨_,by simp only[G5,if_true],hk⟩
theorem FH.neg (hr : -9223372036854775808 <= -a /\ -a<=9223372036854775807) (hk:K (.int .i64 (-a))):FH .neg .i64 a K:=⟨_,by simp only[dR];rw[show (0:Int)-a = -a by omega,IntWalk.i64_in _ hr],hk⟩
theorem FH.go {op:UnOp} {v:AV} (h:dR op (.int k a)=some v) (hk:K v):FH op k a K:=⟨v,h,hk⟩
end
theorem lF {k:IntKind} {n:Int} {K:Int->Prop} (e:k.wrap n=n) (h:K n):CO k n K:=⟨by rw[e];exact h⟩
theorem E2 {n:Int} {K:Int->Prop} (hr:0<=n/\n<=18446744073709551615) (h:K n):CO .u64 n K:=lF (IntWalk.u64_in _ hr) h
theorem dS {n:Int} {K:Int->Prop} (hr : -9223372036854775808<=n/\n<=9223372036854775807) (h:K n):CO .i64 n K:=lF (IntWalk.i64_in _ hr) h
theorem CU {a:Int} {z:Nat} {K:d_->Prop} {e:α} (he:l[a.toNat]? = some e) (h0:0<=a) (hz:(enc e).length=z) (h:K (enc e)):B2 (l.map enc) a z K:=⟨h0,enc e,by simp [he],hz,h⟩
theorem Ab4 {a:Int} {z:Nat} {K:d_->Prop} (h0:0<=a/\a<l.length) (hz : ∀ e,(enc e).length=z) (h : ∀ e,l[a.toNat]? = some e->K (enc e)):B2 (l.map enc) a z K:=by
 have he:l[a.toNat]? = some (l[a.toNat]' D'):=zE _;exact CU he h0.1 (hz _) (h _ he)
theorem Ajn {n z:Nat} {K:d_->Prop} (hn:n<l.length) (hz : ∀ e,(enc e).length=z) (h : ∀ e,l[n]? = some e->K (enc e)):B2 (l.map enc) (n:Int) z K :=
 Ab4 ⟨D',D'⟩ hz h
theorem KX {i j n:Nat} {K:d_->Prop} {f:α->d_} (hi:i<l.length) (hp : ∀ e,part (enc e) j n=some (f e)) (h : ∀ e,l[i]? = some e->K (f e)):C6 (l.map enc) (0+((i:Int)).toNat) j n K:=by
 have he:l[i]? = some l[i]:=zE _;rw[uc,Hc];exact ⟨enc l[i],f l[i],by simp [he],hp _,h _ he⟩
theorem Ai5 {i:Int} {j n:Nat} {K:d_->Prop} {f:α->d_} (hi:0<=i/\i<l.length) (hp : ∀ e,part (enc e) j n=some (f e)) (h : ∀ e,l[i.toNat]? = some e->K (f e)):C6 (l.map enc) (0+i.toNat) j n K:=by
 have hl:i.toNat<l.length:=D'
 have he:l[i.toNat]? = some l[i.toNat]:=zE _;rw[uc];exact ⟨enc l[i.toNat],f l[i.toNat],by rw[Uc,he];rfl,hp _,h _ he⟩
theorem LB {i:Nat} {vs:d_} {K:c_->Prop} (e:α) (he:vs=enc e) (hz : ∀ x,(enc x).length=vs.length) (hi:i<l.length) (h:K ((l.set i e).map enc)):C9 (l.map enc) (0+((i:Int)).toNat) 0 vs K:=by
 rw[uc,Hc];refine ⟨enc l[i],by simp [zE hi],by rw[hz];omega,?_⟩;rw[show splice (enc l[i]) 0 vs=vs by simp [splice,<-hz l[i]],he,<-yg];exact h
theorem iV {i j n:Nat} {K:d_->Prop} {e:α} {ds:d_} (he:l[i]? = some e) (hp:part (enc e) j n=some ds) (h:K ds):C6 (l.map enc) i j n K:=⟨enc e,ds,by simp [he],hp,h⟩
theorem Asq {cs vs:d_} (h:cs.length=vs.length):splice cs 0 vs=vs:=by
 simp [splice,<-h]
theorem AjU {i:Nat} {vs:d_} {K:c_->Prop} (e:α) (he:vs=enc e) (hz : ∀ x,(enc x).length=vs.length) (hi:i<l.length) (h:K ((l.set i e).map enc)):C9 (l.map enc) i 0 vs K:=by
 refine ⟨enc l[i],by simp [zE hi],by rw[hz];omega,?_⟩;rw[Asq (hz _),he,<-yg];exact h
theorem I2 {a b:Int} {bytes:Nat} {zero:d_} {K:c_->Nat->Prop} (x:α) (n:Nat) (hx:zero=enc x) (hn:a=n) (hr:a<=b/\b*bytes<=140737488355328/\b<=9223372036854775807) (h:K ((Ub n x).map enc) n):EO a b bytes zero K:=by
 subst hn hx;refine ⟨⟨D',hr.1,by simpa [H8] using hr.2.1,hr.2.2⟩,?_⟩;simpa using h
theorem BW {K:Nat->Prop} (h:K l.length):BT (l.map enc) K:=⟨by simpa using h⟩
theorem H9 {len z bytes:Nat} {vs:d_} {K:c_->Nat->Prop} (e:α) (he:vs=enc e) (hl:len=l.length) (hz:vs.length=z) (hr:(l.length+1)*bytes<=140737488355328) (il:l.length+1<=9223372036854775807) (h:K ((l++[e]).map enc) (l++[e]).length):EC (l.map enc) len [vs] z bytes K:=by
 subst hl;refine ⟨p_,by simpa using hz,by simpa [H8] using hr,by simpa using il,?_⟩;rw[zT p_];simpa [he] using h
theorem pO {len z bytes:Nat} {l':List α} {K:c_->Nat->Prop} (hl:len=l.length) (hz : ∀ x,(enc x).length=z) (hr:(l.length+l'.length)*bytes<=140737488355328) (il:l.length+l'.length<=9223372036854775807) (h:K ((l++l').map enc) (l++l').length):EC (l.map enc) len (l'.map enc) z bytes K:=by
 subst hl;refine ⟨p_,by simp [hz],by simpa [H8] using hr,by simpa using il,?_⟩;rw[zT p_];simpa using h
theorem pM {z bytes:Nat} {vs:d_} {K:c_->Nat->Prop} (e:α) (he:vs=enc e) (hz:vs.length=z) (hb:bytes<=140737488355328) (h:K ([e].map enc) 1):E0 [vs] z bytes K :=
 ⟨by simpa using hz,by simpa [H8] using hb,p_,by simpa [he] using h⟩
theorem Z6 {z bytes:Nat} {K:c_->Nat->Prop} (hz : ∀ x,(enc x).length=z) (hr:l.length*bytes<=140737488355328) (il:l.length<=9223372036854775807) (h:K (l.map enc) l.length):E0 (l.map enc) z bytes K :=
 ⟨by simp [hz],by simpa [H8] using hr,by simpa using il,by simpa using h⟩
theorem qH {off len:Nat} {K:c_->Prop} (hl:off+len<=l.length) (h:K (((l.drop off).take len).map enc)):D6 (l.map enc) off len K :=
 ⟨by simpa using hl,by rw[<-Se,<-Te];exact h⟩
theorem Xv : ∀ {e:d_},JW e=true->WB e=true/\e.map nl=e
 | [],_=>⟨rfl,rfl⟩
 | v::r,h=>by
  have hv:JW r=true:=by cases v<;>simp only[JW]at h<;>first|cases h|exact h
  obtain ⟨h1,h2⟩:=Xv hv;cases v<;>simp only[JW]at h<;>first|cases h|exact ⟨h1,by rw[ta,h2];rfl⟩
theorem AfF : ∀ {es:c_},(∀ e∈es,JW e=true)->es.map (λ e=>e.map nl)=es
 | [],_=>rfl
 | e::r,h=>by rw[ta,(Xv (h e ie)).2,AfF λ x hx=>h x (Ad _ hx)]
theorem lQ {es:c_} {off len:Nat} {K:c_->Prop} (hl:off+len<=es.length) (hz : ∀ e∈es,JW e=true) (h:K ((es.drop off).take len)):CT es off len K :=
 ⟨hl,λ e he=>(Xv (hz e he)).1,by rw[AfF λ e he=>hz e (Ug (Be he))];exact h⟩
theorem G9 {off len:Nat} {K:c_->Prop} (hz : ∀ x,JW (enc x)=true) (ho:off=0) (hl:len=l.length) (h:K (l.map enc)):CT (l.map enc) off len K:=by
 subst hl ho;refine lQ p_ (λ e he => ?_) (by rw[Ae,zT p_];exact h);obtain ⟨x,_,rfl⟩:=Od.1 he;exact hz x
theorem NK {off len:Nat} {K:c_->Prop} (hz : ∀ x,JW (enc x)=true) (hl:off+len<=l.length) (h:K (((l.drop off).take len).map enc)):CT (l.map enc) off len K:=by
 refine lQ (by simpa using hl) (λ e he => ?_) (by rw[<-Se,<-Te];exact h);obtain ⟨x,_,rfl⟩:=Od.1 he;exact hz x
theorem HL {e:d_} {K:c_->Prop} (h:K [e]):D6 [e] 0 1 K:=⟨p_,h⟩
theorem AjT {K:c_->Prop} (h:K []):CT [] 0 0 K:=⟨p_,p_,h⟩
theorem OA {e:d_} {K:c_->Prop} (h0:JW e=true) (h:K [e]):CT [e] 0 1 K:=lQ p_ (by simpa using h0) h
theorem iX {e e':d_} {K:c_->Prop} (h0:JW e=true) (h1:JW e'=true) (h:K [e,e']):CT [e,e'] 0 2 K:=lQ p_ (by simpa using ⟨h0,h1⟩) h
section
variable {β:Type} {z:Nat} {ll:List (List β)} {en:β->d_}
abbrev DD (z:Nat) (en:β->d_) (ll:List (List β)):List (b_):=ll.map λ r=>some (z,r.map en)
theorem KB {i:Nat} {K:b_->Prop} (hi:i<ll.length) (h : ∀ r,ll[i]? = some r->K (some (z,r.map en))):EF (DD z en ll) (0+((i:Int)).toNat) K:=by
 have he:ll[i]? = some ll[i]:=zE _;exact ⟨_,by rw[uc,Hc,Uc,he];rfl,h _ he⟩
theorem AiX {i:Nat} {K:Nat->c_->Prop} {r:List β} (hr:ll[i]? = some r) (h:K z (r.map en)):DP (DD z en ll) i K :=
 ⟨z,r.map en,by rw[Uc,hr];rfl,h⟩
theorem K6 {i:Nat} {K:Nat->c_->Prop} {r:List β} (hr:ll[i]? = some r) (h:K z (r.map en)):DP (DD z en ll) (0+((i:Int)).toNat) K:=by
 rw[uc,Hc];exact AiX hr h
theorem vT {i:Nat} {r r':List β} {K:List (b_)->Prop} (hl:r'.length=r.length) (h:K (DD z en (ll.set i r'))):FR (DD z en ll) (0+((i:Int)).toNat) z (r.map en) (r'.map en) K:=by
 rw[uc,Hc];exact ⟨by simpa using hl,by simpa [DD,yg] using h⟩
theorem pL {len bytes:Nat} {r:List β} {K:List (b_)->Nat->Prop} (hl:len=ll.length) (hr:(ll.length+1)*bytes<=140737488355328) (il:ll.length+1<=9223372036854775807) (h:K (DD z en (ll++[r])) (ll++[r]).length):F7 (DD z en ll) len (some (z,r.map en)) bytes K:=by
 subst hl;exact ⟨p_,by simpa [H8] using hr,il,by simpa [DD] using h⟩
theorem Agk (q:Bool) : ∀ ll:List (List β),dL q (DD z en ll)=ll.map λ r=>[AV.sl q (r.map en)]
 | []=>rfl
 | r::l=>by simp only[DD,ta,dL];rw[show dL q (l.map λ r=>some (z,r.map en))=_ from Agk q l]
theorem RY {q:Bool} {off len:Nat} {K:c_->Prop} (hz : ∀ x,JW (en x)=true) (ho:off=0) (hl:len=ll.length) (h:K (ll.map λ r=>[AV.sl q (r.map en)])):E6 q (DD z en ll) off len K:=by
 refine ⟨ho,by simpa using hl,λ z' es hm e he => ?_,by rw[Agk];exact h⟩;obtain ⟨r,_,hr⟩:=Od.1 hm;simp only[ka,oc]at hr;obtain ⟨rfl,rfl⟩:=hr;obtain ⟨x,_,rfl⟩:=Od.1 he;exact hz x
end
theorem AiH {len:Nat} {a:Int} {K:Nat->Nat->Prop} (h0:0<=a/\a<=len) (h:K a.toNat len):EJ (some a) none len K:=⟨a.toNat,len,⟨h0.1,rfl⟩,rfl,D',h⟩
theorem AbN {len:Nat} {b:Int} {K:Nat->Nat->Prop} (h0:0<=b/\b<=len) (h:K 0 b.toNat):EJ none (some b) len K:=⟨0,b.toNat,rfl,⟨h0.1,h0.2,rfl⟩,D',h⟩
theorem AiI {len:Nat} {a b:Int} {K:Nat->Nat->Prop} (h0:0<=a/\a<=b/\b<=len) (h:K a.toNat b.toNat):EJ (some a) (some b) len K:=⟨a.toNat,b.toNat,⟨h0.1,rfl⟩,⟨D',D',rfl⟩,D',h⟩
theorem Ab8 {z:Nat} {lo hi:Option Int} {K:c_->Prop} (hz : ∀ x,(enc x).length=z) (h:EJ lo hi l.length λ a h=>K (((l.take h).drop a).map enc)):E3 z (l.map enc) lo hi K:=by
 refine ⟨by simp [hz],?_⟩;rw[xc];obtain ⟨a,b,h1,h2,h3,h4⟩:=h;refine ⟨a,b,h1,h2,h3,?_⟩;show K _;rw[<-Te,<-Se];exact h4
theorem eB {z k:Nat} {K:c_->Prop} (hz : ∀ x,(enc x).length=z) (hk:k<=l.length) (h:K ((l.take k).map enc)):E3 z (l.map enc) none (some (k:Int)) K :=
 Ab8 hz (AbN D' (by simpa using h))
theorem AjR {z k:Nat} {K:c_->Prop} (hz : ∀ x,(enc x).length=z) (hk:k<=l.length) (h:K ((l.drop k).map enc)):E3 z (l.map enc) (some (k:Int)) none K :=
 Ab8 hz (AiH D' (by simpa using h))
theorem AU {f:Nat} {vs:d_} {K:AV->Prop} {r:AV} (h:Ev L f vs r) (hk:K r):AM L f vs K:=⟨r,h,hk⟩
theorem AbQ {f:Nat} {vs:d_} {K:AV->Prop} {p:Prop} [Decidable p] (h:Ev L f vs (.bool (decide p))) (h1:p->K (.bool true)) (h2 : ¬ p->K (.bool false)):AM L f vs K:=by
 refine ⟨_,h,?_⟩;by_cases e:p
 ·rw[decide_eq_true e];exact h1 e
 ·rw[decide_eq_false e];exact h2 e
theorem B1 {a r:AV} (h:a=r) (hc:CI r):BH a r:=⟨h,hc⟩
theorem HK {a r:Bool} (h:a=r):BH (.bool a) (.bool r):=⟨by rw[h],by simp [CI]⟩
theorem AbW {p:Prop} [Decidable p] (h:p):BH (.bool true) (.bool (decide p)):=⟨by simp [h],by simp [CI]⟩
theorem vG {p:Prop} [Decidable p] (h : ¬ p):BH (.bool false) (.bool (decide p)):=⟨by simp [h],by simp [CI]⟩
theorem F2 {k:IntKind} {a b:Int} (h:a=b):BH (.int k a) (.int k b):=⟨by rw[h],by simp [CI]⟩
theorem jJ (h : ∀ x,ES (enc x)) : ∀ l:List α,J6 (l.map enc)
 | []=>by simp [J6]
 | x::r=>by rw[ta,J6];exact ⟨h x,jJ h r⟩
end
theorem GV {α:Type} {L:Lib} {k:List It} {cd:DE} {tm:Tm} {M:Mem} {Q:Tm->Mem->Prop} (m:α->Nat) (P:α->Prop) (vs:α->Tm) (Ms:α->Mem) (ts:a_) (τ:List (Nat × Nat)) (a:α)
  (he:Q8 τ tm M (vs a++bp ts tm) (Ms a++M)) (hp:P a)
  (step : ∀ a,P a->(∀ a',m a'<m a->P a'->AJ L (.lp cd::k) (vs a'++bp ts tm) (Ms a'++M) Q)->AJ L (.code cd :: .lp cd::k) (vs a++bp ts tm) (Ms a++M) Q):AJ L (.lp cd::k) tm M Q :=
 iQ (α:=α) (λ x=>m x) (λ x=>P x) (λ x=>vs x) (λ x=>Ms x) ts τ a he hp λ a h ih=>step a h λ a' h1 h2=>ih a' h1 h2
theorem pH {α β:Type} {L:Lib} {k:List It} {cd:DE} {tm:Tm} {M:Mem} {Q:Tm->Mem->Prop} (m:α->β->Nat) (P:α->β->Prop) (vs:α->β->Tm) (Ms:α->β->Mem) (ts:a_) (τ:List (Nat × Nat)) (a:α) (b:β)
  (he:Q8 τ tm M (vs a b++bp ts tm) (Ms a b++M)) (hp:P a b)
  (step : ∀ a b,P a b->(∀ a' b',m a' b'<m a b->P a' b'->AJ L (.lp cd::k) (vs a' b'++bp ts tm) (Ms a' b'++M) Q)->AJ L (.code cd :: .lp cd::k) (vs a b++bp ts tm) (Ms a b++M) Q):AJ L (.lp cd::k) tm M Q :=
 iQ (α:=α × β) (λ x=>m x.1 x.2) (λ x=>P x.1 x.2) (λ x=>vs x.1 x.2) (λ x=>Ms x.1 x.2) ts τ (a,b) he hp λ⟨a,b⟩ h ih=>step a b h λ a' b' h1 h2=>ih (a',b') h1 h2
theorem AhW {α β γ:Type} {L:Lib} {k:List It} {cd:DE} {tm:Tm} {M:Mem} {Q:Tm->Mem->Prop} (m:α->β->γ->Nat) (P:α->β->γ->Prop) (vs:α->β->γ->Tm) (Ms:α->β->γ->Mem) (ts:a_) (τ:List (Nat × Nat)) (a:α) (b:β) (c:γ)
  (he:Q8 τ tm M (vs a b c++bp ts tm) (Ms a b c++M)) (hp:P a b c)
  (step : ∀ a b c,P a b c->(∀ a' b' c',m a' b' c'<m a b c->P a' b' c'->AJ L (.lp cd::k) (vs a' b' c'++bp ts tm) (Ms a' b' c'++M) Q)->AJ L (.code cd :: .lp cd::k) (vs a b c++bp ts tm) (Ms a b c++M) Q):AJ L (.lp cd::k) tm M Q :=
 iQ (α:=α × β × γ) (λ x=>m x.1 x.2.1 x.2.2) (λ x=>P x.1 x.2.1 x.2.2) (λ x=>vs x.1 x.2.1 x.2.2) (λ x=>Ms x.1 x.2.1 x.2.2) ts τ (a,b,c) he hp λ⟨a,b,c⟩ h ih=>step a b c h λ a' b' c' h1 h2=>ih (a',b',c') h1 h2
theorem pI {α β γ δ:Type} {L:Lib} {k:List It} {cd:DE} {tm:Tm} {M:Mem} {Q:Tm->Mem->Prop} (m:α->β->γ->δ->Nat) (P:α->β->γ->δ->Prop) (vs:α->β->γ->δ->Tm) (Ms:α->β->γ->δ->Mem) (ts:a_) (τ:List (Nat × Nat)) (a:α) (b:β) (c:γ) (d:δ)
  (he:Q8 τ tm M (vs a b c d++bp ts tm) (Ms a b c d++M)) (hp:P a b c d)
  (step : ∀ a b c d,P a b c d->(∀ a' b' c' d',m a' b' c' d'<m a b c d->P a' b' c' d'->AJ L (.lp cd::k) (vs a' b' c' d'++bp ts tm) (Ms a' b' c' d'++M) Q)->AJ L (.code cd :: .lp cd::k) (vs a b c d++bp ts tm) (Ms a b c d++M) Q):AJ L (.lp cd::k) tm M Q :=
 iQ (α:=α × β × γ × δ) (λ x=>m x.1 x.2.1 x.2.2.1 x.2.2.2) (λ x=>P x.1 x.2.1 x.2.2.1 x.2.2.2) (λ x=>vs x.1 x.2.1 x.2.2.1 x.2.2.2) (λ x=>Ms x.1 x.2.1 x.2.2.1 x.2.2.2) ts τ (a,b,c,d) he hp λ⟨a,b,c,d⟩ h ih=>step a b c d h λ a' b' c' d' h1 h2=>ih (a',b',c',d') h1 h2
theorem AhZ {α β γ δ ε:Type} {L:Lib} {k:List It} {cd:DE} {tm:Tm} {M:Mem} {Q:Tm->Mem->Prop} (m:α->β->γ->δ->ε->Nat) (P:α->β->γ->δ->ε->Prop) (vs:α->β->γ->δ->ε->Tm) (Ms:α->β->γ->δ->ε->Mem) (ts:a_) (τ:List (Nat × Nat)) (a:α) (b:β) (c:γ) (d:δ) (e:ε)
  (he:Q8 τ tm M (vs a b c d e++bp ts tm) (Ms a b c d e++M)) (hp:P a b c d e)
  (step : ∀ a b c d e,P a b c d e->(∀ a' b' c' d' e',m a' b' c' d' e'<m a b c d e->P a' b' c' d' e'->AJ L (.lp cd::k) (vs a' b' c' d' e'++bp ts tm) (Ms a' b' c' d' e'++M) Q)->AJ L (.code cd :: .lp cd::k) (vs a b c d e++bp ts tm) (Ms a b c d e++M) Q):AJ L (.lp cd::k) tm M Q :=
 iQ (α:=α × β × γ × δ × ε) (λ x=>m x.1 x.2.1 x.2.2.1 x.2.2.2.1 x.2.2.2.2) (λ x=>P x.1 x.2.1 x.2.2.1 x.2.2.2.1 x.2.2.2.2) (λ x=>vs x.1 x.2.1 x.2.2.1 x.2.2.2.1 x.2.2.2.2) (λ x=>Ms x.1 x.2.1 x.2.2.1 x.2.2.2.1 x.2.2.2.2) ts τ (a,b,c,d,e) he hp λ⟨a,b,c,d,e⟩ h ih=>step a b c d e h λ a' b' c' d' e' h1 h2=>ih (a',b',c',d',e') h1 h2
theorem Ah0 {α β γ δ ε ζ:Type} {L:Lib} {k:List It} {cd:DE} {tm:Tm} {M:Mem} {Q:Tm->Mem->Prop} (m:α->β->γ->δ->ε->ζ->Nat) (P:α->β->γ->δ->ε->ζ->Prop) (vs:α->β->γ->δ->ε->ζ->Tm) (Ms:α->β->γ->δ->ε->ζ->Mem) (ts:a_) (τ:List (Nat × Nat)) (a:α) (b:β) (c:γ) (d:δ) (e:ε) (f:ζ)
  (he:Q8 τ tm M (vs a b c d e f++bp ts tm) (Ms a b c d e f++M)) (hp:P a b c d e f)
  (step : ∀ a b c d e f,P a b c d e f->(∀ a' b' c' d' e' f',m a' b' c' d' e' f'<m a b c d e f->P a' b' c' d' e' f'->AJ L (.lp cd::k) (vs a' b' c' d' e' f'++bp ts tm) (Ms a' b' c' d' e' f'++M) Q)->AJ L (.code cd :: .lp cd::k) (vs a b c d e f++bp ts tm) (Ms a b c d e f++M) Q):AJ L (.lp cd::k) tm M Q :=
 iQ (α:=α × β × γ × δ × ε × ζ) (λ x=>m x.1 x.2.1 x.2.2.1 x.2.2.2.1 x.2.2.2.2.1 x.2.2.2.2.2) (λ x=>P x.1 x.2.1 x.2.2.1 x.2.2.2.1 x.2.2.2.2.1 x.2.2.2.2.2) (λ x=>vs x.1 x.2.1 x.2.2.1 x.2.2.2.1 x.2.2.2.2.1 x.2.2.2.2.2) (λ x=>Ms x.1 x.2.1 x.2.2.1 x.2.2.2.1 x.2.2.2.2.1 x.2.2.2.2.2) ts τ (a,b,c,d,e,f) he hp λ⟨a,b,c,d,e,f⟩ h ih=>step a b c d e f h λ a' b' c' d' e' f' h1 h2=>ih (a',b',c',d',e',f') h1 h2
theorem FP {α:Type} {L:Lib} {k:List It} {cd:DE} {tm:Tm} {M:Mem} {Q:Tm->Mem->Prop} (m:α->Nat) (P:α->Prop) (vs:α->Tm) (Ms:α->Mem) (a:α)
  (hp:P a)
  (step : ∀ a,P a->(∀ a',m a'<m a->P a'->AJ L (.lp cd::k) (vs a'++bp [] tm) (Ms a'++M) Q)->AJ L (.code cd :: .lp cd::k) (vs a++bp [] tm) (Ms a++M) Q)
  (he:Q8 [] tm M (vs a++bp [] tm) (Ms a++M):=by (conv=>whnf);exact ⟨rfl,rfl,rfl⟩):AJ L (.lp cd::k) tm M Q :=
 GV m P vs Ms [] [] a he hp step
theorem LJ {α β:Type} {L:Lib} {k:List It} {cd:DE} {tm:Tm} {M:Mem} {Q:Tm->Mem->Prop} (m:α->β->Nat) (P:α->β->Prop) (vs:α->β->Tm) (Ms:α->β->Mem) (a:α) (b:β)
  (hp:P a b)
  (step : ∀ a b,P a b->(∀ a' b',m a' b'<m a b->P a' b'->AJ L (.lp cd::k) (vs a' b'++bp [] tm) (Ms a' b'++M) Q)->AJ L (.code cd :: .lp cd::k) (vs a b++bp [] tm) (Ms a b++M) Q)
  (he:Q8 [] tm M (vs a b++bp [] tm) (Ms a b++M):=by (conv=>whnf);exact ⟨rfl,rfl,rfl⟩):AJ L (.lp cd::k) tm M Q :=
 pH m P vs Ms [] [] a b he hp step
theorem LK {α β γ:Type} {L:Lib} {k:List It} {cd:DE} {tm:Tm} {M:Mem} {Q:Tm->Mem->Prop} (m:α->β->γ->Nat) (P:α->β->γ->Prop) (vs:α->β->γ->Tm) (Ms:α->β->γ->Mem) (a:α) (b:β) (c:γ)
  (hp:P a b c)
  (step : ∀ a b c,P a b c->(∀ a' b' c',m a' b' c'<m a b c->P a' b' c'->AJ L (.lp cd::k) (vs a' b' c'++bp [] tm) (Ms a' b' c'++M) Q)->AJ L (.code cd :: .lp cd::k) (vs a b c++bp [] tm) (Ms a b c++M) Q)
  (he:Q8 [] tm M (vs a b c++bp [] tm) (Ms a b c++M):=by (conv=>whnf);exact ⟨rfl,rfl,rfl⟩):AJ L (.lp cd::k) tm M Q :=
 AhW m P vs Ms [] [] a b c he hp step
theorem AQ {L:Lib} {Q:Tm->Mem->Prop} {c:DE} {k:List It} {tm:Tm} {M:Mem} (h:fT (Fk 0 tm) λ tm=>kB M λ M=>XK L Q 500 (.code c::k) tm M):AJ L (.code c::k) tm M Q:=by
 rw[jT,sO]at h;exact AbJ (vV h)
end Go.j4

namespace Go.j4
section
variable {s:Nat} {o o2:BF}
end
section
variable {C:Cl} {b8:a_} {ρ:BM->AV} {s:Nat} {o o2:BF}
end
end Go.j4

namespace Go.j4
variable {L:Lib}
def EY (N:Nat):BM->Bool
 | .t n=>oe n N
 | .c _=>true
def nP (N:Nat):HO->Bool
 | .w9 x=>EY N x
 | .bu _ _=>true
 | .pick c a b=>EY N c&&(EY N a&&EY N b)
 | .bin _ x y=>EY N x&&EY N y
 | .beq _ x y=>EY N x&&EY N y
 | .un _ x=>EY N x
 | .conv _ x=>EY N x
 | .box _ x=>EY N x
 | .alloc _ _=>true
 | .build _ ps=>ps.all λ p=>EY N p.2.2
 | .c8 _ _ ps=>ps.all (EY N)
 | .dj x _=>EY N x
 | .zf x _ _ _=>EY N x
 | .cp _ _ x i=>EY N x&&EY N i
 | .ld _ _ x=>EY N x
 | .Cz _ _ x=>EY N x
 | .st _ x v=>EY N x&&EY N v
 | .mk _ _ _ _ l c=>EY N l&&EY N c
 | .pn _ x lo hi=>EY N x&&((lo.all (EY N))&&(hi.all (EY N)))
 | .ext x _=>EY N x
 | .len x=>EY N x
 | .mm _ xs=>xs.all (EY N)
 | .app _ _ _ x y=>EY N x&&EY N y
 | .call _ xs=>xs.all (EY N)
 | .j5 _ xs=>xs.all (EY N)
 | .Cg _ x=>EY N x
 | .oz _ x=>EY N x
 | .bad=>true
 | .mj x=>EY N x
 | .yx _ _ _ x y=>EY N x&&EY N y
 | .Au _ _ xs=>xs.all (EY N)
 | .Bo _ x=>EY N x
 | .q6 x xs=>EY N x&&xs.all (EY N)
 | .l7 _ xs=>xs.all (EY N)
 | .bf _ _ xs=>xs.all (EY N)
 | .iy _ _ xs=>xs.all (EY N)
 | .Bu _ _ x y=>EY N x&&EY N y
 | .ym _ _ x v=>EY N x&&EY N v
def lR (N:Nat) (a:AI):Bool:=(a.dst.all λ d=>oe d N)&&((a.guard.all λ g=>oe g.1 N)&&nP N a.op)
def OE (N:Nat):DE->Bool
 | .skip=>true
 | .ops l _=>l.all (lR N)
 | .dr c ts _=>OE N c&&ts.all λ t=>oe t N
 | .scope c=>OE N c
 | .seq a b=>OE N a&&OE N b
 | .cond c a b=>EY N c&&(OE N a&&OE N b)
 | .block _ c=>OE N c
 | .loop c=>OE N c
 | .exit _=>true
 | .ret=>true
def aW (N:Nat):It->Bool
 | .code c=>OE N c
 | .tu ts _=>ts.all λ t=>oe t N
 | .g8 _=>true
 | .lp c=>OE N c
structure Gh (N:Nat) (G T T':Tm):Prop where
 lo : ∀ j,j<N->j6 T' j=j6 T j
 hi : ∀ j,N<=j->j6 T' j=j6 G j
variable {N:Nat} {G:Tm}
theorem eH {a b:Nat}:oe a b=true↔a<b:=by simp [oe];omega
theorem Gh.ev {st:St} {T':Tm} {o:BF} (h:Gh N G st.tm T') {x:BM} (hx:EY N x=true):St.ev ⟨T',o⟩ x=st.ev x:=by
 cases x with
 | t n=>exact h.lo n (eH.1 hx)
 | c v=>rfl
theorem gD {f g:BM->AV} {xs:List BM} (h : ∀ x,EY N x=true->f x=g x) (hx:xs.all (EY N)=true):xs.map f=xs.map g:=by
 apply ec;intro x hm;exact h x (ef.1 hx x hm)
theorem Am5 {C:Cl} {b8:a_} {ρ ρ':BM->AV} {own:BF} (h : ∀ x,EY N x=true->ρ' x=ρ x) : ∀ (op:HO),nP N op=true->g7 C b8 ρ' own op=g7 C b8 ρ own op:=by
 intro op m7;cases op;case build zero ps =>
  have:(ps.map λ p=>(p.1,p.2.1,ρ' p.2.2))=ps.map λ p=>(p.1,p.2.1,ρ p.2.2):=by
   apply ec;intro p hm;rw[h _ (ef.1 m7 p hm)]
  simp only[g7,this]
 case c8 s a9 ps =>
  have:ps.mapM (λ x=>cellsOf (ρ' x))=ps.mapM (λ x=>cellsOf (ρ x)):=by
   have Cr:ps.all (EY N)=true:=m7;clear m7;induction ps with
   | nil=>rfl
   | cons p r ih =>
    simp only[Sb,Sa]at Cr;simp only[Gb,h _ Cr.1,ih Cr.2]
  simp only[g7,this]
 case mm m xs=>simp only[g7,gD h m7]
 case call f xs=>simp only[g7,gD h m7]
 case j5 f xs=>simp only[g7,gD h m7]
 case Au p f xs =>
  have:xs.mapM (λ x=>LT (ρ' x))=xs.mapM (λ x=>LT (ρ x)):=by
   have Cr:xs.all (EY N)=true:=m7;clear m7;induction xs with
   | nil=>rfl
   | cons p r ih =>
    simp only[Sb,Sa]at Cr;simp only[Gb,h _ Cr.1,ih Cr.2]
  simp only[g7,this]
 case l7 f xs=>simp only[g7,gD h m7]
 case bf s f xs=>simp only[g7,gD h m7]
 case iy s f xs=>simp only[g7,gD h m7]
 case q6 x xs =>
  simp only[nP,Sa]at m7;simp only[g7,gD h m7.2,h _ m7.1]
 case pn a9 x lo hi =>
  simp only[nP,Sa]at m7;obtain ⟨h1,h2,h3⟩:=m7;cases lo<;>cases hi<;>simp only[Option.all_some,Option.all_none]at h2 h3<;>simp only[g7,h _ h1,h _,h2,h3]
 all_goals (simp only[nP,Sa]at m7;simp only[g7,h _,m7])
theorem Gh.dst {T T':Tm} (h:Gh N G T T') {d:Nat} (hd:d<N) (v:AV):Gh N G (sv T d v) (sv T' d v):=by
 constructor
 ·intro j hj
  rw[pE,pE,h.lo j hj]
 ·intro j hj
  rw[pE,h.hi j hj,if_neg D']
theorem Gh.xp {T T':Tm} {o:BF} (h:Gh N G T T') {d:Option Nat} (hd:(d.all λ d=>oe d N)=true) (v:AV):((⟨T',o⟩:St).dst d v).own=((⟨T,o⟩:St).dst d v).own/\Gh N G ((⟨T,o⟩:St).dst d v).tm ((⟨T',o⟩:St).dst d v).tm:=by
 cases d with
 | none=>exact ⟨rfl,h⟩
 | some d=>exact ⟨rfl,h.dst (eH.1 hd) v⟩
theorem Asv {C:Cl} {a:AI} (ha:lR N a=true) {T T':Tm} {o:BF} (h:Gh N G T T') {s':St} (hs:FY C a ⟨T',o⟩=some s') : ∃ s,FY C a ⟨T,o⟩=some s/\s'.own=s.own/\Gh N G s.tm s'.tm:=by
 simp only[lR,Sa]at ha;obtain ⟨h1,h2,h3⟩:=ha;have hg:JP ⟨T',o⟩ a.guard=JP ⟨T,o⟩ a.guard:=by
  cases hgg:a.guard with
  | none=>rfl
  | some g =>
   rw[hgg]at h2;simp only[JP,h.lo _ (eH.1 h2)]
 have he:=Am5 (C:=C) (b8:=a.b8) (own:=o) (ρ:=St.ev ⟨T,o⟩) (ρ':=St.ev ⟨T',o⟩) (λ x hx=>Gh.ev (st:=⟨T,o⟩) h hx) a.op h3;unfold FY at hs ⊢;rw[hg,he]at hs;cases Pu:JP ⟨T,o⟩ a.guard with
 | none=>rw[Pu]at hs;cases hs
 | some b =>
  rw[Pu]at hs;cases b with
  | false =>
   simp only[ka]at hs ⊢;subst hs;exact ⟨_,rfl,h.xp h1 _⟩
  | true =>
   simp only at hs ⊢;cases hee:g7 C a.b8 (St.ev ⟨T,o⟩) o a.op with
   | none=>rw[hee]at hs;cases hs
   | some e =>
    rw[hee]at hs;simp only[Wb,ka]at hs ⊢;subst hs;refine ⟨_,rfl,?_⟩;cases e with
    | val v=>exact h.xp h1 v
    | new s b v=>exact ⟨rfl,(h.xp (o:=o) h1 _).2⟩
    | Iz s b v=>exact ⟨rfl,(h.xp (o:=o) h1 _).2⟩
    | kb v o'=>exact ⟨rfl,(h.xp (o:=o) h1 _).2⟩
    | v9 s x=>exact ⟨rfl,(h.xp (o:=o) h1 _).2⟩
    | Gw s x v=>exact ⟨rfl,(h.xp (o:=o) h1 _).2⟩
    | Kx s v o'=>exact ⟨rfl,(h.xp (o:=o) h1 _).2⟩
theorem Ag1 {C:Cl} : ∀ {l:List AI},l.all (lR N)=true -> ∀ {T T':Tm} {o:BF},Gh N G T T' -> ∀ {s':St},F9 C l ⟨T',o⟩=some s' -> ∃ s,F9 C l ⟨T,o⟩=some s/\s'.own=s.own/\Gh N G s.tm s'.tm
 | [],_,T,T',o,h,s',hs=>by
  simp only[F9,ka]at hs;subst hs;exact ⟨_,rfl,rfl,h⟩
 | a::l,ha,T,T',o,h,s',hs=>by
  simp only[Sb,Sa]at ha;simp only[F9]at hs;cases h1:FY C a ⟨T',o⟩ with
  | none=>rw[h1]at hs;cases hs
  | some s1 =>
   rw[h1]at hs;obtain ⟨s2,e1,e2,e3⟩:=Asv ha.1 h h1;obtain ⟨T1,o1⟩:=s1;obtain ⟨T2,o2⟩:=s2;simp only at e2 e3;subst e2;obtain ⟨s3,f1,f2,f3⟩:=Ag1 ha.2 e3 hs;exact ⟨s3,by simp only[F9,e1,f1],f2,f3⟩
theorem mW {id:Nat} : ∀ {k k':List It},k.all (aW N)=true->HN id k=some k'->k'.all (aW N)=true
 | [],_,_,h=>by simp [HN]at h
 | it::k,k',hk,h=>by
  simp only[Sb,Sa]at hk;cases it with
  | g8 i =>
   simp only[HN]at h;split at h
   ·cases h;exact hk.2
   ·exact mW hk.2 h
  | code c=>simp only[HN]at h;exact mW hk.2 h
  | tu a b=>simp only[HN]at h;exact mW hk.2 h
  | lp c=>simp only[HN]at h;exact mW hk.2 h
theorem QB {C:Cl} : ∀ (n:Nat) {k:List It},k.all (aW N)=true -> ∀ {T T':Tm} {o:BF},Gh N G T T' -> ∀ {s':St},run C n k ⟨T',o⟩=some s' -> ∃ s,run C n k ⟨T,o⟩=some s/\s'.own=s.own/\Gh N G s.tm s'.tm
 | 0,k,_,T,T',o,_,s',hs=>by simp [run]at hs
 | n+1,[],_,T,T',o,h,s',hs=>by
  simp only[run,ka]at hs ⊢;subst hs;exact ⟨_,rfl,rfl,h⟩
 | n+1,.g8 _::k,hk,T,T',o,h,s',hs=>by
  simp only[Sb,Sa]at hk;simp only[run]at hs ⊢;exact QB n hk.2 h hs
 | n+1,.tu ts ss::k,hk,T,T',o,h,s',hs=>by
  simp only[Sb,Sa]at hk;simp only[run]at hs ⊢;refine QB n hk.2 ⟨λ j hj => ?_,λ j hj => ?_⟩ hs
  ·rw[kY,kY,h.lo j hj]
  ·rw[kY,h.hi j hj,if_neg]
   intro hc;have:=ef.1 hk.1 j (by simpa using hc)
   have:=eH.1 this
   omega
 | n+1,.lp c::k,hk,T,T',o,h,s',hs=>by
  simp only[run]at hs ⊢;have ql:=hk;simp only[Sb,Sa]at hk;exact QB n (by simp only[Sb,Sa];exact ⟨hk.1,hk.1,hk.2⟩) h hs
 | n+1,.code c::k,hk,T,T',o,h,s',hs=>by
  simp only[Sb,Sa]at hk;obtain ⟨hc,hk⟩:=hk;cases c with
  | skip=>simp only[run]at hs ⊢;exact QB n hk h hs
  | ops l d =>
   simp only[run]at hs ⊢;cases h1:F9 C l ⟨T',o⟩ with
   | none=>rw[h1]at hs;cases hs
   | some s1 =>
    rw[h1]at hs;obtain ⟨s2,e1,e2,e3⟩:=Ag1 (show l.all (lR N)=true from hc) h h1;obtain ⟨T1,o1⟩:=s1;obtain ⟨T2,o2⟩:=s2;simp only at e2 e3;subst e2;rw[e1];exact QB n hk e3 hs
  | dr c ts ss =>
   simp only[run]at hs ⊢;simp only[aW,OE,Sa]at hc;exact QB n (by simp only[Sb,Sa];exact ⟨hc.1,hc.2,hk⟩) h hs
  | scope c =>
   simp only[run]at hs ⊢;exact QB n (by simp only[Sb,Sa];exact ⟨hc,hk⟩) h hs
  | seq a b =>
   simp only[run]at hs ⊢;simp only[aW,OE,Sa]at hc;exact QB n (by simp only[Sb,Sa];exact ⟨hc.1,hc.2,hk⟩) h hs
  | cond x a b =>
   simp only[aW,OE,Sa]at hc;simp only[run,Gh.ev (st:=⟨T,o⟩) h hc.1]at hs ⊢;cases hx:St.ev ⟨T,o⟩ x<;>rw[hx]at hs<;>try (simp at hs;done)
   rename_i q;cases q
   ·exact QB n (by simp only[Sb,Sa];exact ⟨hc.2.2,hk⟩) h hs
   ·exact QB n (by simp only[Sb,Sa];exact ⟨hc.2.1,hk⟩) h hs
  | block id c =>
   simp only[run]at hs ⊢;exact QB n (by simp only[Sb,Sa];exact ⟨hc,rfl,hk⟩) h hs
  | loop c =>
   simp only[run]at hs ⊢;exact QB n (by simp only[Sb,Sa];exact ⟨hc,hc,hk⟩) h hs
  | exit id =>
   simp only[run]at hs ⊢;cases he:HN id k with
   | none=>rw[he]at hs;cases hs
   | some k' =>
    rw[he]at hs;exact QB n (mW hk he) h hs
  | ret =>
   simp only[run,ka]at hs ⊢;subst hs;exact ⟨_,rfl,rfl,h⟩
def LH (N:Nat):Tm->Tm
 | []=>[]
 | (i,v)::r=>(N+i,v)::LH N r
def gh (N:Nat):Tm->Tm
 | []=>[]
 | (i,v)::r=>bif Ue N i then (ch i N,v)::gh N r else gh N r
theorem Zl (N j:Nat) : ∀ T:Tm,j6 (LH N T) (N+j)=j6 T j
 | []=>rfl
 | (i,v)::r=>by
  have ih:=Zl N j r;simp only[LH,j6,ih];by_cases h:j=i
  ·simp [h]
  ·rw[if_neg h,if_neg D']
theorem Zm {N j:Nat} (hj:j<N) : ∀ T:Tm,j6 (LH N T) j = .any
 | []=>rfl
 | (i,v)::r=>by
  simp only[LH,j6,Zm hj r];rw[if_neg D']
theorem Aby (N j:Nat) : ∀ T:Tm,j6 (gh N T) j=j6 T (N+j)
 | []=>rfl
 | (i,v)::r=>by
  have ih:=Aby N j r;simp only[gh];cases h:Ue N i
  ·have h1 : ¬ N<=i:=λ e=>by rw[Nat.ble_eq_true_of_le e]at h;cases h
   simp only[cond,j6,ih];rw[if_neg D']
  ·have h1:=ud h
   simp only[cond,j6,ih];by_cases h2:j=i-N
   ·rw[if_pos (show j=ch i N from h2),if_pos D']
   ·rw[if_neg (show ¬ j=ch i N from h2),if_neg D']
def V8 (f:AV->AV):Tm->Tm
 | []=>[]
 | (i,v)::r=>(i,f v)::V8 f r
theorem RQ {f:AV->AV} (hf:f .any = .any) (j:Nat) : ∀ T:Tm,j6 (V8 f T) j=f (j6 T j)
 | []=>hf.symm
 | (i,v)::r=>by
  simp only[V8,j6,RQ hf j r];by_cases h:j=i<;>simp [h]
theorem Yj (f:AV->AV) : ∀ (i:Nat) (vs:d_),FK i (vs.map f)=V8 f (FK i vs)
 | _,[]=>rfl
 | i,v::r=>by simp only[ta,FK,V8,Yj f (i+1) r]
theorem pB (j:Nat) (b:Tm) : ∀ a:Tm,((a.any λ p=>p.1 == j)=true/\j6 (a++b) j=j6 a j)\/((a.any λ p=>p.1 == j)=false/\j6 (a++b) j=j6 b j)
 | []=>Or.inr ⟨rfl,rfl⟩
 | (i,v)::r=>by
  by_cases h:j=i
  ·subst h
   exact Or.inl (by simp [j6])
  ·have h' : ¬ i=j:=λ e=>h e.symm
   rcases pB j b r with ⟨h1,h2⟩|⟨h1,h2⟩
   ·exact Or.inl ⟨by rw[vf,h1,Bool.or_true],by simp only[ff,j6,if_neg h,h2]⟩
   ·exact Or.inr ⟨by rw[vf,h1,fh];simpa using h',by simp only[ff,j6,if_neg h,h2]⟩
theorem zZ (j:Nat) : ∀ (i:Nat) (vs:d_),((FK i vs).any λ p=>p.1 == j)=true->j<i+vs.length
 | _,[],h=>by simp [FK]at h
 | i,v::r,h=>by
  simp only[FK,vf,Bool.or_eq_true,beq_iff_eq]at h;rcases h with h|h
  ·simp;omega
  ·have:=zZ j (i+1) r h
   simp;omega
theorem Abz (j:Nat) : ∀ (i:Nat) (vs:d_),((FK i vs).any λ p=>p.1 == j)=false->j6 (FK i vs) j = .any
 | _,[],_=>rfl
 | i,v::r,h=>by
  simp only[FK,vf,Bool.or_eq_false_iff,beq_eq_false_iff_ne]at h;simp only[FK,j6];rw[if_neg λ e=>h.1 e.symm,Abz j (i+1) r h.2]
theorem VS (σ:JF):DJ σ .any = .any:=rfl
def dH (tm:Tm):List Q7->Option (d_)
 | []=>some []
 | .tmp t::r=>match P9 (tg tm t),dH tm r with
  | some v,some vs=>some (v::vs)
  | _,_=>none
 | .cell _ _ _::_=>none
def oK (N:Nat):List Q7->Bool
 | []=>true
 | .tmp t::r=>oe t N&&oK N r
 | .cell _ _ _::_=>false
def Ab5 (N:Nat) (fn:AFn) (tm:Tm) (K:AV->Mem->Prop) (gu:Tm) (M':Mem):Prop:=gh N gu=tm /\ ∃ rs,dH gu fn.res=some rs/\K (N1 rs) M'
theorem ArK {σ:JF} {v u:AV} (h:P9 v=some u):u=v/\DJ σ v=DM σ v/\P9 (DJ σ v)=some (DJ σ v):=by
 cases v<;>simp [P9]at h<;>subst h<;>exact ⟨rfl,rfl,rfl⟩
theorem Wx {σ:JF} {gu:Tm} {M:Mem} {s s':St} (hr:RX σ gu M s') (zn : ∀ j,j<N->j6 s'.tm j=j6 s.tm j) : ∀ {res:List Q7} {rs:d_},oK N res=true->dH gu res=some rs->res.mapM (JL s)=some (rs.map (DM σ)) /\ ∀ v∈rs,DJ σ v=DM σ v
 | [],rs,_,h=>by
  simp only[dH,ka]at h;subst h;exact ⟨rfl,p_⟩
 | .cell _ _ _::_,_,_,h=>by simp [dH]at h
 | .tmp t::r,rs,hl,h=>by
  simp only[oK,Sa]at hl;simp only[dH]at h;cases h1:P9 (tg gu t) with
  | none=>rw[h1]at h;simp at h
  | some v =>
   cases h2:dH gu r with
   | none=>rw[h1,h2]at h;simp at h
   | some vs =>
    rw[h1,h2]at h;simp only[ka]at h;subst h;obtain ⟨i1,i2⟩:=Wx hr zn hl.2 h2;obtain ⟨rfl,j2,j3⟩:=ArK (σ:=σ) h1;have:j6 s.tm t=DJ σ (tg gu t):=by
     rcases hr.tm t with e|e
     ·rw[e]at h1;cases h1
     ·rw[<-zn t (eH.1 hl.1),e]
    refine ⟨?_,?_⟩
    ·rw[j2]at j3 this
     simp only[Gb,JL,this,j3,i1,ta];rfl
    ·intro v hv
     simp only[Gc]at hv;rcases hv with rfl|hv
     ·exact j2
     ·exact i2 v hv
theorem Age {σ:JF} {rs:d_} (h : ∀ v∈rs,DJ σ v=DM σ v):N1 (rs.map (DM σ))=DJ σ (N1 rs):=by
 match rs,h with
 | [],_=>rfl
 | [v],h=>exact (h v p_).symm
 | _::_::_,_=>rfl
theorem K5 {f:Nat} {fn:AFn} {vs:d_} {tm:Tm} {M:Mem} {K:AV->Mem->Prop} (N:Nat) (hL:L f=some fn) (hp:Wa vs.length fn.gq=true) (hN:(Ue fn.gq N&&(OE N fn.body&&oK N fn.res))=true)
  (h:AJ L [.code fn.body] (FK 0 vs++LH N tm) M (Ab5 N fn tm K)):CZ L f vs tm M K:=by
 intro σ own hs;simp only[Sa]at hN;obtain ⟨n1,n2,n3⟩:=hN;have n1:=ud n1;have hp:vs.length=fn.gq:=td hp;have hrx:RX σ (FK 0 vs++LH N tm) M ⟨V8 (DJ σ) (FK 0 vs++LH N tm),own⟩:=⟨λ j=>Or.inr (by rw[RM];exact RQ (VS σ) j _),hs⟩;obtain ⟨n,c,s',hr,σ',gu,M',hR,hg,rs,hrs,hk⟩:=h σ _ hrx;have hgh:Gh N (V8 (DJ σ) (LH N tm)) (FK 0 (vs.map (DJ σ))) (V8 (DJ σ) (FK 0 vs++LH N tm)):=by
  constructor
  ·intro j hj
   rw[Yj,RQ (VS σ),RQ (VS σ)];rcases pB j (LH N tm) (FK 0 vs) with ⟨_,e⟩|⟨hn,e⟩
   ·rw[e]
   ·rw[e,Zm hj,Abz j 0 vs hn]
  ·intro j hj
   rw[RQ (VS σ),RQ (VS σ)];rcases pB j (LH N tm) (FK 0 vs) with ⟨hn,e⟩|⟨_,e⟩
   ·have:=zZ j 0 vs hn
    omega
   ·rw[e]
 obtain ⟨s,r1,r2,r3⟩:=QB n (by simp [aW,n2]) hgh hr;obtain ⟨i1,i2⟩:=Wx (s:=s) hR r3.lo n3 hrs;refine ⟨N1 rs,s.own,σ',M',LL.intro hL (by simpa using hp) ⟨n,c,s,r1,?_,rfl⟩,?_,?_,hk⟩
 ·rw[i1,Wb,Age i2]
 ·rw[<-r2];exact hR.sat
 ·intro j
  have e1:tg tm j=tg gu (N+j):=by rw[RM,RM,<-hg,Aby]
  rcases hR.tm (N+j) with e|e
  ·rw[e1,e];rfl
  ·rw[e1,<-e,r3.hi (N+j) D',RQ (VS σ),Zl,<-RM,e1]
theorem qI {α:Type} {enc:α->d_} {l:List α} {i:Nat} {vs:d_} {K:c_->Prop} (n:Nat) (e:α) (hn:i=n) (he:vs=enc e) (hz : ∀ x,(enc x).length=vs.length) (hi:n<l.length) (h:K ((l.set n e).map enc)):C9 (l.map enc) i 0 vs K:=by
 subst hn;exact AjU e he hz hi h
theorem M7 {x:Int} {len:Nat} {K:Nat->Nat->Prop} (h:Nat) (hx:x=h) (hl:h<=len) (hk:K 0 h):EJ none (some x) len K:=⟨0,h,rfl,⟨D',D',D'⟩,D',hk⟩
theorem AiG {x:Int} {len:Nat} {K:Nat->Nat->Prop} (a:Nat) (hx:x=a) (hl:a<=len) (hk:K a len):EJ (some x) none len K:=⟨a,len,⟨D',D'⟩,rfl,D',hk⟩
end Go.j4

namespace Go.j4
section
variable {K:AV->Prop} {a b:Nat} {k':IntKind}
theorem wrap_u32 (n:Nat):IntKind.u32.wrap (n:Int)=((n%4294967296:Nat):Int):=by rw[IntKind.wrap_u32];omega
theorem Ate (n:Nat):IntKind.u64.wrap (n:Int)=((n%18446744073709551616:Nat):Int):=by
 simp [IntKind.wrap,IntKind.bits,IntKind.signed]
theorem KY (h:a+b<=18446744073709551615) (hk:K (.int .u64 ((a+b:Nat):Int))):A0 .add .u64 (a:Int) .u64 (b:Int) K :=
 ⟨_,by simp only[G5,if_true];rw[IntWalk.u64_in _ D'],by simpa using hk⟩
theorem QI (h:b<=a) (h2:a<=18446744073709551615) (hk:K (.int .u64 ((a-b:Nat):Int))):A0 .sub .u64 (a:Int) .u64 (b:Int) K :=
 ⟨_,by simp only[G5,if_true];rw[IntWalk.u64_in _ D'],by rw[show (a:Int)-b=((a-b:Nat):Int) by omega];exact hk⟩
theorem qD (h:b<=18446744073709551616) (hk:K (.int .u64 ((IH a b:Nat):Int))):A0 .sub .u64 (a:Int) .u64 (b:Int) K :=
 pY (v := .int .u64 (IntKind.u64.wrap ((a:Int)-b))) (by simp only[G5,if_true]) (by
  have e:IntKind.u64.wrap ((a:Int)-b)=((IH a b:Nat):Int):=by
   rw[iM];simp only[IntKind.wrap,IntKind.bits,IntKind.signed];simp;omega
  rw[e];exact hk)
theorem YT (h:a*b<=18446744073709551615) (hk:K (.int .u64 ((a*b:Nat):Int))):A0 .mul .u64 (a:Int) .u64 (b:Int) K :=
 ⟨_,by simp only[G5,if_true];rw[<-Kf,IntWalk.u64_in _ D'],hk⟩
theorem qB (h:0<b) (h2:a<=18446744073709551615) (hk:K (.int .u64 ((a/b:Nat):Int))):A0 .quo .u64 (a:Int) .u64 (b:Int) K:=by
 refine ⟨_,by simp only[G5];rw[if_pos ⟨trivial,D'⟩],?_⟩;rw[IntWalk.u64_quo _ _ ⟨D',D',D'⟩,<-Int.natCast_ediv];exact hk
theorem lJ (h:0<b) (hk:K (.int .u64 ((a%b:Nat):Int))):A0 .rem .u64 (a:Int) .u64 (b:Int) K:=by
 refine ⟨_,by simp only[G5];rw[if_pos ⟨trivial,D'⟩],?_⟩;rw[IntWalk.rem_in _ _ D',<-Int.natCast_emod];exact hk
theorem Ar9 {k:IntKind} {n:Nat} (hn:n<=k.bits):G5 .shl k (a:Int) k' (n:Int)=some (.int k (k.wrap ((a*2^n:Nat):Int))):=by
 simp only[G5];rw[if_neg D',Hc,Ce hn];simp
theorem Asb {k:IntKind} {n:Nat} (hn:n<=k.bits):G5 .shr k (a:Int) k' (n:Int)=some (.int k ((a/2^n:Nat):Int)):=by
 simp only[G5];rw[if_neg D',Hc,Ce hn,Int.fdiv_eq_ediv_of_nonneg _ (Int.le_of_lt (Int.pow_pos D'))];simp
theorem vR {k:IntKind} {n:Nat} (hn:n<=k.bits) (hk:K (.int k (k.wrap ((a*2^n:Nat):Int)))):A0 .shl k (a:Int) k' (n:Int) K:=⟨_,Ar9 hn,hk⟩
theorem YV {k:IntKind} {n:Nat} (hn:n<=k.bits) (hk:K (.int k ((a/2^n:Nat):Int))):A0 .shr k (a:Int) k' (n:Int) K:=⟨_,Asb hn,hk⟩
theorem WP (h:a<=4294967295) (hk:K (.int .u64 ((a*4294967296:Nat):Int))):A0 .shl .u64 (a:Int) k' 32 K:=by
 refine vR (n:=32) o_ ?_;rw[Ate,show a*2^32%18446744073709551616=a*4294967296 by omega];exact hk
theorem JU (hk:K (.int .u64 ((a/4294967296:Nat):Int))):A0 .shr .u64 (a:Int) k' 32 K:=YV (n:=32) o_ hk
theorem qC (hk:K (.int .u64 ((a/9223372036854775808:Nat):Int))):A0 .shr .u64 (a:Int) k' 63 K:=YV (n:=63) o_ hk
theorem Aja (hk:K (.int .u64 ((a/4:Nat):Int))):A0 .shr .u64 (a:Int) k' 2 K:=YV (n:=2) o_ hk
theorem Ai9 (hk:K (.int .u32 ((a/65536:Nat):Int))):A0 .shr .u32 (a:Int) k' 16 K:=YV (n:=16) o_ hk
theorem Ajb (hk:K (.int .u32 ((a/256:Nat):Int))):A0 .shr .u32 (a:Int) k' 8 K:=YV (n:=8) o_ hk
theorem Ai8 (hk:K (.int .u32 ((a/2:Nat):Int))):A0 .shr .u32 (a:Int) k' 1 K:=YV (n:=1) o_ hk
theorem Xt (w n:Nat):(te w (n:Int)).toNat=n%2^w:=by rw[BitVec.toNat_ofInt];omega
theorem Arc {n x y:Nat} (hx:x%2^n=0) (hy:y<2^n):x ||| y=x+y:=by
 have e:x=2^n*(x/2^n):=by have:=De x (2^n);omega
 rw[e,<-Nat.two_pow_add_eq_or_of_lt hy]
theorem vQ {k:IntKind} (n:Nat) (hx:a%2^n=0) (hy:b<2^n) (h:a+b<2^k.bits) (hw:k.wrap ((a+b:Nat):Int)=((a+b:Nat):Int)) (hk:K (.int k ((a+b:Nat):Int))):A0 .or k (a:Int) k (b:Int) K:=by
 refine pY (v := .int k (k.wrap (te k.bits (a:Int) ||| te k.bits (b:Int)).toNat)) (by simp only[G5,if_true]) ?_;rw[BitVec.toNat_or,Xt,Xt,Vf D',Vf D',Arc hx hy,hw];exact hk
theorem YU (h:a%4294967296=0/\b<4294967296/\a+b<=18446744073709551615) (hk:K (.int .u64 ((a+b:Nat):Int))):A0 .or .u64 (a:Int) .u64 (b:Int) K :=
 vQ 32 h.1 h.2.1 (show a+b<18446744073709551616 by omega) (IntWalk.u64_in _ D') hk
theorem Ab0 (h:a<=18446744073709551615) (hk:K (.int .u64 ((a%4294967296:Nat):Int))):A0 .and .u64 (a:Int) .u64 4294967295 K:=by
 refine pY (v := .int .u64 (IntKind.u64.wrap (te IntKind.u64.bits (a:Int) &&& te IntKind.u64.bits 4294967295).toNat)) (by simp only[G5,if_true]) ?_;rw[BitVec.toNat_and,Xt,show (te IntKind.u64.bits 4294967295).toNat=2^32-1 by decide,Nat.and_two_pow_sub_one_eq_mod,show a%2^IntKind.u64.bits=a from Vf (show a<18446744073709551616 by omega),IntWalk.u64_in _ D'];exact hk
theorem AbZ (hk:K (.int .u32 (((a+b)%4294967296:Nat):Int))):A0 .add .u32 (a:Int) .u32 (b:Int) K :=
 pY (v := .int .u32 (IntKind.u32.wrap ((a:Int)+b))) (by simp only[G5,if_true]) (by rw[<-Int.natCast_add,wrap_u32];exact hk)
end
section
variable {K:Int->Prop} {n:Nat}
theorem AbU (h:n<=18446744073709551615) (hk:K (n:Int)):CO .u64 (n:Int) K:=lF (IntWalk.u64_in _ D') hk
theorem IA (h:n<=4294967295) (hk:K (n:Int)):CO .u32 (n:Int) K:=lF (IntWalk.u32_in _ D') hk
theorem J7 (hk:K ((n%4294967296:Nat):Int)):CO .u32 (n:Int) K:=⟨by rw[wrap_u32];exact hk⟩
theorem AiM (h:n<=255) (hk:K (n:Int)):CO .u8 (n:Int) K:=lF (IntWalk.u8_in _ D') hk
end
theorem qK {tb:a_} {n v:Nat} {K:Nat->Prop} (hv:tb[n]? = some v) (hk:K v):eE tb (n:Int) K:=⟨D',v,by rw[Hc];exact hv,hk⟩
abbrev BK (n:Nat):d_:=[.int .u32 (n:Int)]
theorem EW (l:a_):J6 (l.map BK):=jJ (λ_=>by simp [ES,CI]) l
section
variable {l:a_} {K:d_->Prop}
theorem qG {n:Nat} (hD:CM l) (hn:n<l.length) (h : ∀ e,l[n]? = some e->e<4294967296->K (BK e)):B2 (l.map BK) (n:Int) 1 K :=
 Ajn hn (λ_=>rfl) λ e he=>h e he (hD.at he)
theorem Z9 {a:Int} (hD:CM l) (hn:0<=a/\a<l.length) (h : ∀ e,l[a.toNat]? = some e->e<4294967296->K (BK e)):B2 (l.map BK) a 1 K :=
 Ab4 hn (λ_=>rfl) λ e he=>h e he (hD.at he)
theorem AbY {i:Nat} (hD:CM l) (hi:i<l.length) (h : ∀ e,l[i]? = some e->e<4294967296->K (BK e)):C6 (l.map BK) (0+((i:Int)).toNat) 0 1 K :=
 KX (f:=BK) hi (λ_=>rfl) λ e he=>h e he (hD.at he)
theorem dZ {i:Int} (hD:CM l) (hi:0<=i/\i<l.length) (h : ∀ e,l[i.toNat]? = some e->e<4294967296->K (BK e)):C6 (l.map BK) (0+i.toNat) 0 1 K :=
 Ai5 (f:=BK) hi (λ_=>rfl) λ e he=>h e he (hD.at he)
theorem JM {i v:Nat} {KK:c_->Prop} (hi:i<l.length) (h:KK ((l.set i v).map BK)):C9 (l.map BK) (0+((i:Int)).toNat) 0 [.int .u32 (v:Int)] KK:=LB (enc:=BK) v rfl (λ_=>rfl) hi h
theorem qJ {i v:Nat} {KK:c_->Prop} (n:Nat) (hn:i=n) (hi:n<l.length) (h:KK ((l.set n v).map BK)):C9 (l.map BK) i 0 [.int .u32 (v:Int)] KK:=qI (enc:=BK) n v hn rfl (λ_=>rfl) hi h
end
end Go.j4
namespace Go.j4
variable {L:Lib}
theorem Ev.xE {f:Nat} {fn:AFn} {vs:d_} {P:AV->Prop} (hL:L f=some fn) (hp:Wa vs.length fn.gq=true) (hd:R5 vs=true) (h:AJ L [.code fn.body] (FK 0 vs) [] (λ tm M => ∃ r,aA fn r tm M/\P r)) (hs:fn.Ay=false:=by rfl) : ∃ r,Ev L f vs r/\P r:=by
 obtain ⟨n,c,k8,hr,σ,tm,M,hR,r,hq,hP⟩:=h (λ_ _=>(0,0)) ⟨FK 0 vs,BF.emp⟩ ⟨λ j=>Or.inr (by rw[RM];exact mE hd j),⟨(λ_ _ _ e=>by cases e),(λ_ _ _ e=>by simp [b7,c7]at e),(λ_ _ _ e=>by simp [b7,c7]at e),(λ_ _ _ _ _ _ e=>by simp [b7,c7]at e),(λ_ _ _ e=>by simp [b7,c7]at e)⟩⟩;exact ⟨r,Ev.fwd hL (DY.1 hp) ⟨n,c,k8,hr,Ab7 hR hq⟩ hs,hP⟩
def kI:HO->Bool
 | .bu .. | .box .. | .alloc .. | .c8 .. | .st .. | .mk .. | .app .. | .j5 .. | .q6 .. | .ym .. | .bf .. | .yx .. | .iy .. => false
 | _=>true
def OG:DE->Bool
 | .skip=>true
 | .ops l _=>l.all λ a=>kI a.op
 | .dr c _ ss=>OG c&&ss.isEmpty
 | .scope c=>OG c
 | .seq a b=>OG a&&OG b
 | .cond _ a b=>OG a&&OG b
 | .block _ c=>OG c
 | .loop c=>OG c
 | .exit _=>true
 | .ret=>true
def ZH:It->Bool
 | .code c=>OG c
 | .tu _ ss=>ss.isEmpty
 | .g8 _=>true
 | .lp c=>OG c
theorem Am8 {C:Cl} {b8:a_} {ρ:BM->AV} {own:BF} {op:HO} {E:ET} (ho:kI op=true) (h:g7 C b8 ρ own op=some E) : ∃ v,E = .val v:=by
 cases op<;>first|(simp [kI]at ho;done)|skip
 all_goals simp only[g7]at h
 all_goals
  first
   | (simp only[ka]at h;exact ⟨_,h.symm⟩)
   | (simp only[Re]at h;obtain ⟨_,_,rfl⟩:=h;exact ⟨_,rfl⟩)
   | skip
 all_goals (repeat' split at h)
 all_goals
  first
   | (cases h;done)
   | (simp only[ka]at h;exact ⟨_,h.symm⟩)
   | (simp only[Re]at h;obtain ⟨_,_,rfl⟩:=h;exact ⟨_,rfl⟩)
theorem Asx {C:Cl} {a:AI} (ho:kI a.op=true) {s s':St} (h:FY C a s=some s'):s'.own=s.own:=by
 unfold FY at h;split at h
 ·cases he:g7 C a.b8 s.ev s.own a.op with
  | none=>rw[he]at h;cases h
  | some E =>
   rw[he]at h;obtain ⟨v,rfl⟩:=Am8 ho he;simp only[Wb,ka]at h;subst h;simp only[St.app];cases a.dst<;>rfl
 ·simp only[ka]at h
  subst h;cases a.dst<;>rfl
 ·cases h
theorem Ag2 {C:Cl} : ∀ {l:List AI},(l.all λ a=>kI a.op)=true -> ∀ {s s':St},F9 C l s=some s'->s'.own=s.own
 | [],_,s,s',h=>by simp only[F9,ka]at h;rw[h]
 | a::l,ho,s,s',h=>by
  simp only[Sb,Sa]at ho;simp only[F9]at h;cases h1:FY C a s with
  | none=>rw[h1]at h;cases h
  | some s1 =>
   rw[h1]at h;rw[Ag2 ho.2 h,Asx ho.1 h1]
theorem mX {id:Nat} : ∀ {k k':List It},k.all ZH=true->HN id k=some k'->k'.all ZH=true
 | [],_,_,h=>by simp [HN]at h
 | it::k,k',hk,h=>by
  simp only[Sb,Sa]at hk;cases it with
  | g8 i =>
   simp only[HN]at h;split at h
   ·cases h;exact hk.2
   ·exact mX hk.2 h
  | code c=>simp only[HN]at h;exact mX hk.2 h
  | tu a b=>simp only[HN]at h;exact mX hk.2 h
  | lp c=>simp only[HN]at h;exact mX hk.2 h
theorem QC {C:Cl} : ∀ (n:Nat) {k:List It},k.all ZH=true -> ∀ {s s':St},run C n k s=some s'->s'.own=s.own
 | 0,k,_,s,s',h=>by simp [run]at h
 | n+1,[],_,s,s',h=>by
  simp only[run,ka]at h;rw[h]
 | n+1,it::k,hk,s,s',h=>by
  have ql:=hk;simp only[Sb,Sa]at hk;obtain ⟨hi,hk⟩:=hk;cases it with
  | g8 _=>simp only[run]at h;exact QC n hk h
  | tu ts ss =>
   have:ss=[]:=by simpa [ZH] using hi
   subst this;simp only[run]at h;rw[QC n hk h];rfl
  | lp c=>simp only[run]at h;exact QC n (by simp only[Sb,Sa];exact ⟨hi,hi,hk⟩) h
  | code c =>
   cases c with
   | skip=>simp only[run]at h;exact QC n hk h
   | ops l d =>
    simp only[run]at h;cases h1:F9 C l s with
    | none=>rw[h1]at h;cases h
    | some s1 =>
     rw[h1]at h;rw[QC n hk h,Ag2 (show (l.all λ a=>kI a.op)=true from hi) h1]
   | dr c ts ss =>
    simp only[run]at h;simp only[ZH,OG,Sa]at hi;exact QC n (by simp only[Sb,Sa];exact ⟨hi.1,hi.2,hk⟩) h
   | scope c=>simp only[run]at h;exact QC n (by simp only[Sb,Sa];exact ⟨hi,hk⟩) h
   | seq a b =>
    simp only[run]at h;simp only[ZH,OG,Sa]at hi;exact QC n (by simp only[Sb,Sa];exact ⟨hi.1,hi.2,hk⟩) h
   | cond x a b =>
    simp only[ZH,OG,Sa]at hi;simp only[run]at h;split at h
    ·exact QC n (by simp only[Sb,Sa];exact ⟨hi.1,hk⟩) h
    ·exact QC n (by simp only[Sb,Sa];exact ⟨hi.2,hk⟩) h
    ·cases h
   | block id c=>simp only[run]at h;exact QC n (by simp only[Sb,Sa];exact ⟨hi,rfl,hk⟩) h
   | loop c=>simp only[run]at h;exact QC n (by simp only[Sb,Sa];exact ⟨hi,hi,hk⟩) h
   | exit id =>
    simp only[run]at h;split at h
    ·rename_i k' he
     exact QC n (mX hk he) h
    ·cases h
   | ret =>
    simp only[run,ka]at h;rw[h]
def Ajq (fn:AFn) (r:AV) (tm:Tm) (_M:Mem):Prop := ∃ rs,dH tm fn.res=some rs/\N1 rs=r
def rH:AV->Bool
 | .e9 vs=>R5 vs
 | v=>aJ v
theorem Ac4 {σ:JF} {v:AV} (h:rH v=true):DJ σ v=v:=by
 cases v with
 | e9 vs =>
  simp only[DJ];congr 1;simp only[rH]at h;induction vs with
  | nil=>rfl
  | cons v r ih =>
   simp only[R5]at h;cases hv:aJ v<;>simp only[hv,cond_true,cond_false]at h
   ·cases h
   ·rw[ta,ih h]
    congr 1;cases v<;>first|rfl|(simp [aJ,Df]at hv;done)|skip
    rename_i cs;exact rG (σ:=σ) (v := .agg cs) hv
 | _=>exact rG (σ:=σ) h
def lN (L:Lib) (f:Nat) (vs:d_) (r:AV):Prop:=rH r=true/\(∀ σ:JF,vs.map (DJ σ)=vs) /\ ∀ own:BF,LL L f vs own r own
theorem Ac2 {σ:JF} : ∀ {vs:d_},R5 vs=true->vs.map (DJ σ)=vs
 | [],_=>rfl
 | v::r,h=>by
  simp only[R5]at h;cases hv:aJ v<;>simp only[hv,cond_true,cond_false]at h
  ·cases h
  ·rw[ta,rG hv,Ac2 h]
theorem AjQ {f:Nat} {fn:AFn} {vs:d_} {r:AV} (hL:L f=some fn) (hp:Wa vs.length fn.gq=true) (hd:R5 vs=true) (Um:OG fn.body=true) (n7:oK 100000 fn.res=true) (hr:rH r=true) (h:AJ L [.code fn.body] (FK 0 vs) [] (Ajq fn r)):lN L f vs r:=by
 refine ⟨hr,λ σ=>Ac2 hd,λ own => ?_⟩;obtain ⟨n,c,k8,w5,σ,tm,M,hR,rs,hrs,he⟩:=h (λ_ _=>(0,0)) ⟨FK 0 vs,own⟩ ⟨λ j=>Or.inr (by rw[RM];exact mE hd j),⟨(λ_ _ _ e=>by cases e),(λ_ _ _ e=>by simp [b7,c7]at e),(λ_ _ _ e=>by simp [b7,c7]at e),(λ_ _ _ _ _ _ e=>by simp [b7,c7]at e),(λ_ _ _ e=>by simp [b7,c7]at e)⟩⟩;have ho:=QC n (by simp [ZH,Um]) w5;obtain ⟨i1,i2⟩:=Wx (N:=100000) (s:=k8) hR (λ_ _=>rfl) n7 hrs;refine LL.intro hL (DY.1 hp) ⟨n,c,k8,w5,?_,ho⟩;rw[i1,Wb,Age i2,he,Ac4 hr]
theorem RW {f:Nat} {vs:d_} {r:AV} {tm:Tm} {M:Mem} {K:AV->Mem->Prop} (h:lN L f vs r) (hk:K r M):CZ L f vs tm M K:=by
 intro σ own hs;refine ⟨r,own,σ,M,?_,hs,λ_=>rfl,hk⟩;rw[h.2.1 σ,Ac4 h.1];exact h.2.2 own
end Go.j4

namespace Go.j4
variable {L:Lib}
def Ab6 (fn:AFn) (z:Nat) (es:c_) (tm:Tm) (M:Mem):Prop:=match fn.res with
 | [.tmp t]=>match tg tm t with
  | .row k 0 z' 0 n=>match c7 M k with
   | some (_,.rw po es')=>z'=z/\po=z/\n=es.length/\es'=es/\J6 es
   | _=>False
  | _=>False
 | _=>False
theorem dU.x {f:Nat} {fn:AFn} {vs:d_} {z:Nat} {es:c_} (hL:L f=some fn) (hp:Wa vs.length fn.gq=true) (hd:R5 vs=true) (h:AJ L [.code fn.body] (FK 0 vs) [] (Ab6 fn z es)):dU L f vs z es:=by
 obtain ⟨n,c,k8,hr,σ,tm,M,hR,hq⟩:=h (λ_ _=>(0,0)) ⟨FK 0 vs,BF.emp⟩ ⟨λ j=>Or.inr (by rw[RM];exact mE hd j),⟨(λ_ _ _ e=>by cases e),(λ_ _ _ e=>by simp [b7,c7]at e),(λ_ _ _ e=>by simp [b7,c7]at e),(λ_ _ _ _ _ _ e=>by simp [b7,c7]at e),(λ_ _ _ e=>by simp [b7,c7]at e)⟩⟩;unfold Ab6 at hq;split at hq
 ·rename_i t Eg
  split at hq
  ·rename_i k z' m htm
   split at hq
   ·rename_i s po es' hM
    obtain ⟨rfl,rfl,rfl,rfl,q5⟩:=hq;have hv:j6 k8.tm t = .row (σ k 0).1 (σ k 0).2 po 0 es'.length:=by
     rcases hR.tm t with e|e
     ·rw[htm]at e;cases e
     ·rw[e,htm];rfl
    have hb:=hR.sat.g8 k 0 (.rw po es') (by simp only[b7,hM]);obtain ⟨q,hq⟩:=LL.intro (r := .row (σ k 0).1 (σ k 0).2 po 0 es'.length) (o':=k8.own) hL (DY.1 hp) ⟨n,c,k8,hr,by simp [Eg,JL,hv,P9,N1],rfl⟩;refine ⟨q,?_⟩;simp only[hq,WR,BF.get,hb];rw[if_pos (show (C4.g8 σ k (.rw po es')).es.length=es'.length/\J6 (C4.g8 σ k (.rw po es')).es from ⟨rfl,q5⟩)];rfl
   ·exact hq.elim
  ·exact hq.elim
 ·exact hq.elim
theorem Ah4 {Q:Tm->Mem->Prop} {c:DE} {k:List It} {tm:Tm} {M:Mem} (n:Nat) (h:fT (Fk 0 tm) λ tm=>kB M λ M=>XK L Q n (.code c::k) tm M):AJ L (.code c::k) tm M Q:=by
 rw[jT,sO]at h;exact AbJ (vV h)
theorem AbR {α:Type} {enc:α->d_} {l:List α} {f z:Nat} {vs:d_} {K:Nat->c_->Nat->Prop} (n:Nat) (h:dU L f vs z (l.map enc)) (hn:n=l.length) (hk:K z (l.map enc) n):GN L f vs K:=⟨z,_,n,h,by simpa using hn,hk⟩
end Go.j4

namespace Go.j4
theorem AhO {A w C:a_} {i n:Nat} (hi:i=A.length+n) (hn:n<w.length):(A++w++C)[i]? = w[n]? := by
 subst hi;rw[Ud,Oc D',zg,Nc hn]
theorem Ata {A w C:a_} {i n v:Nat} (hi:i=A.length+n) (hn:n<w.length):(A++w++C).set i v=A++w.set n v++C:=by
 subst hi;rw[Ud,cg _ _ D',zg,List.set_append_left _ _ hn,Ud]
theorem WQ {A w C:a_} {i v:Nat} {KK:c_->Prop} (n:Nat) (hi:i=A.length+n) (hn:n<w.length) (h:KK ((A++w.set n v++C).map BK)):C9 ((A++w++C).map BK) i 0 [.int .u32 (v:Int)] KK:=by
 have hl:i<(A++w++C).length:=by simp;omega
 refine qI (enc:=BK) i v rfl rfl (λ_=>rfl) hl ?_;rw[Ata hi hn];exact h
theorem AqL {W X Vi p q u d c b pr t:Nat} (h:W+q*Vi=X+p*(c+b)) (Cq:pr=q*d+c) (ht:t=IH (IH u (pr%4294967296)) b) (hu:u<4294967296) (hb:b<=1) :
  W+p*(t%4294967296)+q*(Vi+p*d)=X+p*u+p*4294967296*(pr/4294967296+t/9223372036854775808):=by
 obtain ⟨h1,_⟩:=uQ hu (show pr%4294967296<4294967296 by omega) hb;rw[<-ht]at h1;have h2:=De pr 4294967296;generalize t%4294967296=w at *;generalize t/9223372036854775808=b' at *;generalize pr%4294967296=pl at *;generalize pr/4294967296=ph at *;have e1:p*(w+pl+b)=p*(u+4294967296*b'):=by rw[h1]
 have e2:p*(pl+4294967296*ph)=p*(q*d+c):=by rw[h2,Cq]
 grind
theorem Afw {q d c pr:Nat} (hq:q<4294967296) (hd:d<4294967296) (hc:c<4294967296) (Cq:pr=q*d+c):pr/4294967296<4294967296/\pr<=18446744073709551615/\q*d<=18446744065119617025:=by
 have:=kE hq hd
 omega
theorem AqJ {W X V p q u c b t:Nat} (h:W+q*V=X+p*(c+b)) (ht:t=IH (IH u c) b) (hu:u<4294967296) (hc:c<4294967296) (hb:b<=1) :
  W+p*(t%4294967296)+q*V=X+p*u+p*4294967296*(t/9223372036854775808):=by
 obtain ⟨h1,_⟩:=uQ hu hc hb;rw[<-ht]at h1;generalize t%4294967296=w at *;generalize t/9223372036854775808=b' at *;have e1:p*(w+c+b)=p*(u+4294967296*b'):=by rw[h1]
 grind
theorem AqM {W X Vi p q u d c b pr w take have' jb:Nat} (h:W+q*Vi=X+p*(c+b)) (Cq:pr=c+q*d) (h1:take=pr%4294967296+b) (h2:(have'=u/\jb=0/\take<=u)\/(have'=u+4294967296/\jb=1/\u<take)) (h3:w+take=have') :
  W+p*w+q*(Vi+p*d)=X+p*u+p*4294967296*(pr/4294967296+jb):=by
 have h4:=De pr 4294967296;have h5:w+pr%4294967296+b=u+4294967296*jb:=D'
 generalize pr%4294967296=pl at *;generalize pr/4294967296=ph at *;have e1:p*(w+pl+b)=p*(u+4294967296*jb):=by rw[h5]
 have e2:p*(pl+4294967296*ph)=p*(c+q*d):=by rw[h4,Cq]
 grind
theorem AqK {W X V p q u c b w take have' jb:Nat} (h:W+q*V=X+p*(c+b)) (h1:take=c+b) (h2:(have'=u/\jb=0/\take<=u)\/(have'=u+4294967296/\jb=1/\u<take)) (h3:w+take=have') :
  W+p*w+q*V=X+p*u+p*4294967296*jb:=by
 have h5:w+c+b=u+4294967296*jb:=D'
 have e1:p*(w+c+b)=p*(u+4294967296*jb):=by rw[h5]
 grind
theorem Acg {W X Vi p w d c t:Nat} (h:W+p*c=X+Vi) (ht:t=w+d+c):W+p*(t%4294967296)+p*4294967296*(t/4294967296)=X+p*w+(Vi+p*d):=by
 have h1:=YZ W p t;have e:p*t=p*w+p*d+p*c:=by rw[ht];grind
 omega
theorem Acf {W X V R p w c:Nat} (h:W+p*c=X+V) (hX:X+p*w+V=R+p*4294967296) (hR:R<p*4294967296) (hW:W<p):W+p*((w+c)%4294967296)=R:=by
 have h1:W+p*(w+c)=R+p*4294967296:=by
  rw[Tf];omega
 have h2:=De (w+c) 4294967296;have h3:p*(w+c)=p*((w+c)%4294967296)+p*4294967296*((w+c)/4294967296):=by
  rw[Kd,<-Tf,h2]
 have h4:(w+c)%4294967296<4294967296:=Mg _ D';generalize (w+c)%4294967296=m at *;generalize (w+c)/4294967296=k at *;have h5:W+p*m<p*4294967296:=by
  have:p*m+p<=p*4294967296:=by rw[<-Uh];exact Ic p D'
  omega
 have h6:k=1:=by
  rcases Bd k 1 with hk|hk|hk
  ·have:k=0:=D'
   subst this;omega
  ·exact hk
  ·have:p*4294967296*2<=p*4294967296*k:=Ic _ D'
   omega
 subst h6;omega
theorem AsM {U V UL VL p u2 v2 v1 top:Nat} (hU:U=UL+p*(u2+4294967296*top)) (hV:V=VL+p*(v2+4294967296*v1)) (Lo:VL<p) (h2:v2<4294967296) (h:U<4294967296*V):top<4294967296*(v1+1):=by
 have h3:V<p*(4294967296*(v1+1)):=by
  have:p*(v2+4294967296*v1)+p<=p*(4294967296*(v1+1)):=by
   rw[<-Uh];exact Ic p D'
  omega
 have h4:p*(4294967296*top)<=U:=by
  have:p*(4294967296*top)<=p*(u2+4294967296*top):=Ic p D'
  omega
 have h5:p*(4294967296*top)<p*(4294967296*(4294967296*(v1+1))):=by
  have:p*(4294967296*(4294967296*(v1+1)))=4294967296*(p*(4294967296*(v1+1))):=v_
  omega
 have:=od h5
 omega
structure Gs (U V v1 v2 u2 top q r:Nat):Prop where
 hq:q*v1+r=top
 hr:r<4294967296
 ge:U/V<=q
theorem Gs.next {U V UL VL p v1 v2 u2 top q r:Nat} (g:Gs U V v1 v2 u2 top q r) (hU:U=UL+p*(u2+4294967296*top)) (hV:V=VL+p*(v2+4294967296*v1)) (Ft:UL<p) (gi:0<V) (Vt:U<4294967296*V)
  (h:4294967296<=q\/r*4294967296+u2<q*v2):1<=q/\(q-1)*v1+(r+v1)=top/\U/V<=q-1:=by
 have h1:U/V<q:=by
  rcases h with h|h
  ·exact Apk Vt h gi
  ·exact Apl hU hV Ft g.hq h gi
 have hq:=g.hq;clear h g hU hV Vt;generalize U/V=Q at *;obtain ⟨k,rfl⟩ : ∃ k,q=k+1:=⟨q-1,D'⟩;refine ⟨D',?_,D'⟩;rw[Nat.add_sub_cancel,<-hq,Ph];omega
theorem Gs.start {U V UL VL p v1 v2 u2 top:Nat} (hU:U=UL+p*(u2+4294967296*top)) (hV:V=VL+p*(v2+4294967296*v1)) (Ft:UL<p) (h2:u2<4294967296) (gi:0<V) (h1:0<v1) (h1b:v1<4294967296):Gs U V v1 v2 u2 top (top/v1) (top%v1):=by
 refine ⟨by rw[Ee];exact vh _ _,?_,?_⟩
 ·have:=Mg top h1
  omega
 ·rw[Nat.le_div_iff_mul_le h1]
  exact Apm hU hV Ft h2 gi
theorem jW {U V UL VL p v1 v2 u2 top q r:Nat} (hU:U=UL+p*(u2+4294967296*top)) (hV:V=VL+p*(v2+4294967296*v1)) (Lo:VL<p) (Wo:2147483648<=v1) (Wp:v2<4294967296) (Vt:U<4294967296*V) (hq:q*v1+r=top)
  (h:(q<4294967296/\q*v2<=r*4294967296+u2)\/4294967296<=r):q<4294967296/\q<=U/V+1:=by
 rcases h with ⟨h1,h2⟩|h
 ·exact ⟨h1,AeD hU hV Lo Wo hq h2 h1⟩
 ·have ht:=AsM hU hV Lo Wp Vt
  have Af:q<4294967296:=by
   have h3:q*v1<4294967296*v1:=D'
   exact Cf h3
  refine ⟨Af,AeD hU hV Lo Wo hq ?_ Af⟩;have:=kE Af Wp
  omega
theorem iL (a:a_) (k:Nat):val a=val (a.take k)+4294967296^k*val (a.drop k):=by
 rcases lg a.length k with h|h
 ·rw[zT D',Cb D',QG];omega
 ·exact RT a k h
theorem iK (a:a_) (k:Nat):val (a.drop k)=a.getD k 0+4294967296*val (a.drop (k+1)):=by
 rcases lg k a.length with h|h
 ·rw[M5 (zE h),zc,zE h];rfl
 ·rw[Cb h,Cb D',zc,Hb h];rfl
theorem aV {a:a_} (h:CM a) (k:Nat):a.getD k 0<4294967296:=by
 rw[zc];cases e:a[k]? with
 | none=>simp
 | some d=>simpa using h.at e
theorem getD_some {a:a_} {k d:Nat} (h:a[k]? = some d):d=a.getD k 0:=by rw[zc,h];rfl
theorem getD_none {a:a_} {k:Nat} (h:a.length<=k):0=a.getD k 0:=by rw[zc,Hb h];rfl
theorem vA {a:a_} (hD:CM a) {n:Nat} (hn:3<=n) (hl:a.length<=n) : ∃ r,r<4294967296^(n-3)/\val a=r+4294967296^(n-3)*(a.getD (n-3) 0+4294967296*(a.getD (n-2) 0+4294967296*a.getD (n-1) 0)):=by
 refine ⟨val (a.take (n-3)),?_,?_⟩
 ·refine Qc (JD (hD.take _)) (ye D' ?_)
  rw[Qd];omega
 ·have h1:=iL a (n-3)
  have h2:=iK a (n-3);have h3:=iK a (n-3+1);have h4:=iK a (n-3+1+1);rw[Cb (show a.length<=n-3+1+1+1 by omega),QG]at h4;rw[show n-3+1=n-2 by omega]at *;rw[show n-2+1=n-1 by omega]at *;rw[h4,pe,je]at h3;rw[h3]at h2;rw[h2]at h1;exact h1
theorem Ahn {a:a_} (hD:CM a) {n:Nat} (hn:2<=n) (hl:a.length<=n) : ∃ r,r<4294967296^(n-2)/\val a=r+4294967296^(n-2)*(a.getD (n-2) 0+4294967296*a.getD (n-1) 0):=by
 refine ⟨val (a.take (n-2)),?_,?_⟩
 ·refine Qc (JD (hD.take _)) (ye D' ?_)
  rw[Qd];omega
 ·have h1:=iL a (n-2)
  have h2:=iK a (n-2);have h3:=iK a (n-2+1);rw[Cb (show a.length<=n-2+1+1 by omega),QG]at h3;rw[show n-2+1=n-1 by omega]at *;rw[h3,pe,je]at h2;rw[h2]at h1;exact h1
theorem aK {a b:Nat} (h:a<=b):(dg a).length<=(dg b).length:=by
 rcases lg (dg b).length (dg a).length with h1|h1
 ·have:=lE h1;omega
 ·exact h1
theorem xH {p:Nat} (h:p<18446744073709551616):val [p%4294967296,p/4294967296]=p/\CM [p%4294967296,p/4294967296]:=by
 refine ⟨by simp [val];omega,λ x hx => ?_⟩;simp at hx;omega
theorem LQ {a:a_} {k d:Nat} (h:a[k]? = some d):a.getD k 0=d:=(getD_some h).symm
theorem Yv {y:a_} {s yt:Nat} (hD:CM y) (Iq:y[y.length-1]? = some yt) (hl:1<=y.length) (hs:s<=31) (b3:2147483648<=yt*2^s) (b4:yt*2^s<4294967296):val y*2^s<4294967296^y.length/\4294967296^(y.length-1)*2147483648<=val y*2^s:=by
 have h1:=RT y (y.length-1) D';have h2:=M5 Iq;rw[Cb (show y.length<=y.length-1+1 by omega),QG,pe,je]at h2;rw[h2]at h1;have h3:=JD (hD.take (y.length-1));rw[Qd,Ce D']at h3;have e:4294967296^y.length=4294967296^(y.length-1)*4294967296:=by rw[<-Ge,Nat.succ_eq_add_one,show y.length-1+1=y.length by omega]
 rw[e];generalize 4294967296^(y.length-1)=p at *;have hk:(yt+1)*2^s<=4294967296:=by
  have e2:4294967296=2^s*2^(32-s):=by rw[<-Hd,show s+(32-s)=32 by omega]
  rw[e2,Ee]at b4;have:=od b4
  rw[e2,Ee];exact Ic _ this
 have h4:val y+1<=p*(yt+1):=by rw[Tf];omega
 have h5:=zR (2^s) h4;have h6:p*((yt+1)*2^s)<=p*4294967296:=Ic p hk;rw[<-Kd]at h6;have h7:p*2147483648<=p*(yt*2^s):=Ic p b3;have h8:p*(yt*2^s)<=val y*2^s:=by rw[<-Kd];exact zR _ D'
 have h9:=Lf s;rw[Ph]at h5;exact ⟨D',D'⟩
theorem Ahf {v:a_} {k c d:Nat} (hD:CM v) (hl:v.length=k+1) (h:4294967296^k*c<=val v) (hd:v[k]? = some d):c<=d:=by
 have h1:=RT v k D';have h2:=M5 hd;rw[Cb (show v.length<=k+1 by omega),QG,pe,je]at h2;rw[h2]at h1;have h3:=JD (hD.take k);rw[Qd,Ce D']at h3;generalize 4294967296^k=p at *;have h4:p*c<p*(d+1):=by rw[Tf];omega
 have:=od h4
 omega
theorem Adv (o:a_) (j n:Nat) (h:j+n<=o.length) : ∃ A W C,A.length=j/\W.length=n/\o=A++W++C:=by
 refine ⟨o.take j,(o.drop j).take n,(o.drop j).drop n,by simp;omega,by simp;omega,?_⟩;rw[Ud,gg,gg]
theorem Ac7 {A W C:a_} (h:CM (A++W++C)):CM A/\CM W/\CM C:=by
 refine ⟨λ x hx=>h x (by simp [hx]),λ x hx=>h x (by simp [hx]),λ x hx=>h x (by simp [hx])⟩
theorem Adx {A W C:a_} {j l V:Nat} (hA:A.length=j) (hW:W.length=l+1) (hD:CM (A++W++C)) (h:val ((A++W++C).drop (j+1))<V) (hV:V<4294967296^l) :
  val C=0/\val W<4294967296*V/\val ((A++W++C).take (j+1))+4294967296^(j+1)*val ((A++W++C).drop (j+1))=val A+4294967296^j*val W:=by
 have h1:=iL (A++W++C) (j+1);have h2:val (A++W++C)=val A+4294967296^j*(val W+4294967296^(l+1)*val C):=by
  rw[Ud,lD,lD,hA,hW]
 have h3:=iK (A++W++C) j;have h4:(A++W++C).drop j=W++C:=by
  rw[Ud,Uf D',Cb D'];rfl
 have h5:=aV hD j;rw[h4,lD,hW]at h3;rw[Ge]at h3;have h6:val C=0:=by
  rcases Nat.eq_zero_or_pos (val C) with h0|h0
  ·exact h0
  ·have:4294967296^l*4294967296*1<=4294967296^l*4294967296*val C:=Ic _ h0
   omega
 rw[h6,pe,je]at h3;refine ⟨h6,D',?_⟩;rw[<-h1,h2,h6,pe,je]
theorem xY {A W C:a_} {j:Nat} (hA:A.length=j) (hC:val C=0):val ((A++W++C).drop j)=val W/\val ((A++W++C).take j)=val A:=by
 rw[Ud,Uf D',Cb D',List.take_append_of_le_length D',zT D',ve,lD,hC];simp
theorem Adw {U VA P Q q V W R:Nat} (h:U=VA+P*W+P*4294967296*(Q*V)) (h2:W=q*V+R):U=VA+P*((q+4294967296*Q)*V+R):=by
 rw[h,h2];grind
section
variable {a b:Nat} {K:AV->Prop}
theorem Ab1 (n:Nat) (hx:a%2^n=0) (hy:b<2^n) (h:a+b<=18446744073709551615) (hk:K (.int .u64 ((a+b:Nat):Int))):A0 .or .u64 (a:Int) .u64 (b:Int) K :=
 vQ n hx hy (show a+b<18446744073709551616 by omega) (IntWalk.u64_in _ D') hk
theorem qA (n:Nat) (hx:b%2^n=0) (hy:a<2^n) (h:a+b<=18446744073709551615) (hk:K (.int .u64 ((a+b:Nat):Int))):A0 .or .u64 (a:Int) .u64 (b:Int) K:=by
 have e:G5 .or .u64 (a:Int) .u64 (b:Int)=G5 .or .u64 (b:Int) .u64 (a:Int):=by
  simp only[G5,if_true,BitVec.or_comm]
 rw[Nat.add_comm]at hk h;have hh:=Ab1 (K:=K) n hx hy h hk;unfold A0 at hh ⊢;rw[e];exact hh
end
theorem pZ {a:Nat} {K:AV->Prop} (h:a<=18446744069414584319) (hk:K (.int .u64 ((a+4294967296:Nat):Int))):A0 .add .u64 (a:Int) .u64 4294967296 K :=
 KY (b:=4294967296) D' hk
theorem RA {l:a_} {i e:Nat} {K:d_->Prop} (he:l[i]? = some e) (h:K (BK e)):C6 (l.map BK) (0+((i:Int)).toNat) 0 1 K :=
 iV (e:=e) (by rw[uc,Hc];exact he) rfl h
theorem Ai4 {l:a_} {i:Int} {e:Nat} {K:d_->Prop} (he:l[i.toNat]? = some e) (h:K (BK e)):C6 (l.map BK) (0+i.toNat) 0 1 K :=
 iV (e:=e) (by rw[uc];exact he) rfl h
theorem Z8 {A w C:a_} {i e:Nat} {K:d_->Prop} (n:Nat) (he:w[n]? = some e) (hi:i=A.length+n) (h:K (BK e)):C6 ((A++w++C).map BK) i 0 1 K:=by
 have hn:=(zS he).1;exact iV (e:=e) (by rw[AhO hi hn];exact he) rfl h
end Go.j4

namespace Go.j4
def jY (n s:Nat):Nat:=4294967296^(n-3)*(2^(32-s)*4)
theorem Aqr (n s:Nat):0<jY n s:=Qh (Sg D') (Qh (Lf _) D')
theorem Ae1 {a:a_} (hD:CM a) {n s d1 d2 d3:Nat} (hn:3<=n) (hl:a.length<=n) (hs:s<=31) (h1:d1=a.getD (n-1) 0) (h2:d2=a.getD (n-2) 0) (h3:d3=a.getD (n-3) 0) :
  ((d1*4294967296+d2)*2^s+d3*2^s/4294967296)/4=val a/jY n s:=by
 obtain ⟨r,hr,hv⟩:=vA hD hn hl;rw[<-h1,<-h2,<-h3]at hv;unfold jY;rw[hv,<-ig,Qg _ _ (Sg D'),Nat.div_eq_of_lt hr,uc,<-ig];congr 1;have e:d3+4294967296*(d2+4294967296*d1)=d3+2^(32-s)*(2^s*(d1*4294967296+d2)):=by
  rw[<-Kd,<-Hd,show 32-s+s=32 by omega];omega
 rw[e,Qg _ _ (Lf _)];have:=Agw (d:=d3) (s:=s) D'
 rw[gY]at this;rw[this,Ee (2^s)];omega
theorem Ae2 {a:a_} (hD:CM a) {n s d1 d2:Nat} (hn:3<=n) (hl:a.length<=n) (h1:d1=a.getD (n-1) 0) (h2:d2=a.getD (n-2) 0) (n7:val a*2^s<4294967296^n) :
  (d1*4294967296+d2)*2^s<=18446744073709551615:=by
 obtain ⟨r,hr,hv⟩:=vA hD hn hl;rw[<-h1,<-h2]at hv;generalize a.getD (n-3) 0=d3 at *;have e:4294967296^n=4294967296^(n-3)*(4294967296*18446744073709551616):=by
  rw[show n=n-3+3 by omega,Hd,show n-3+3-3=n-3 by omega]
 rw[e,hv]at n7;generalize 4294967296^(n-3)=p at *;have h3:p*(4294967296*((d1*4294967296+d2)*2^s))<p*(4294967296*18446744073709551616):=by
  refine We ?_ n7;rw[<-Kd,<-Kd];refine zR _ ?_;have h5:p*(4294967296*(d2+4294967296*d1))<=p*(d3+4294967296*(d2+4294967296*d1)):=Ic p D';rw[Kd,show d1*4294967296+d2=d2+4294967296*d1 by omega];omega
 have:=od (od h3)
 omega
theorem sT {k s:Nat} (hs:s<=64) (h:k*2^s<=18446744073709551615):k*2^s+2^s<=18446744073709551616:=by
 have e:18446744073709551616=2^(64-s)*2^s:=by rw[<-Hd,show 64-s+s=64 by omega]
 have h1:k<2^(64-s):=by
  refine Cf (a:=2^s) ?_;rw[<-e];omega
 have h2:=zR (2^s) h1;rw[dh,<-e]at h2;exact h2
theorem Ae3 {a:a_} (hD:CM a) {n s:Nat} (hn:3<=n) (hl:a.length<=n) (hs:s<=31) (n7:val a*2^s<4294967296^n):val a/jY n s<=4611686018427387904:=by
 rw[<-Ae1 hD hn hl hs rfl rfl rfl];have h1:=Ae2 hD hn hl rfl rfl n7;have b3:=aV hD (n-3);have h2:=sT (show s<=64 by omega) h1;obtain ⟨_,h3,_,_⟩:=gZ (s:=s) b3 D';rw[gY]at h3;generalize (a.getD (n-1) 0*4294967296+a.getD (n-2) 0)*2^s=T at *;generalize a.getD (n-3) 0*2^s=U at *;omega
theorem Ae4 {V K:Nat} (hK:0<K) : ∃ e:Int,(V:Int)=(K:Int)*((V/K:Nat):Int)+e/\0<=e/\e<=K:=by
 refine ⟨((V%K:Nat):Int),?_,D',?_⟩
 ·have:=vh V K
  have h2:((K*(V/K)+V%K:Nat):Int)=(V:Int):=by rw[this]
  rw[<-h2];simp
 ·have:=Mg V hK
  omega
def mB (t:Int):Nat:=(t%4294967296).toNat
theorem AcO (t:Int):mB t<4294967296:=by unfold mB;omega
theorem wN (t:Int):(mB t:Int)=t%4294967296:=by unfold mB;omega
def Z7 (f g:Int):Prop:=(0<=f/\f<=2147483647 /\ -2147483647<=g/\g<=0)\/(-2147483647<=f/\f<=0/\0<=g/\g<=2147483647)
theorem Agu {f:Int} {d:Nat} (hd:d<4294967296):(0<=f->f<=2147483647->0<=f*d/\f*d<=9223372030412324865)/\(f<=0 -> -2147483647<=f->f*d<=0 /\ -9223372030412324865<=f*d):=by
 constructor
 ·intro h0 h1
  refine ⟨nh h0 D',?_⟩;have:f*d<=2147483647*4294967295:=lh h1 D' D' D'
  omega
 ·intro h0 h1
  have a1:0<=(-f)*d:=nh D' D';have a2:(-f)*d<=2147483647*4294967295:=lh D' D' D' D';rw[Int.neg_mul]at a1 a2;omega
theorem Z7.rng {f g:Int} (h:Z7 f g) {d e:Nat} (hd:d<4294967296) (he:e<4294967296):(-9223372030412324865<=f*d/\f*d<=9223372030412324865)/\(-9223372030412324865<=g*e/\g*e<=9223372030412324865) /\ -9223372030412324865<=f*d+g*e/\f*d+g*e<=9223372030412324865:=by
 obtain ⟨a1,a2⟩:=Agu (f:=f) hd;obtain ⟨b1,b2⟩:=Agu (f:=g) he;rcases h with ⟨h1,h2,h3,h4⟩|⟨h1,h2,h3,h4⟩
 ·have:=a1 h1 h2;have:=b2 h4 h3;omega
 ·have:=a2 h2 h1;have:=b1 h3 h4;omega
theorem AcP {V X Y p c f g d e t:Int} (h:V+p*c=f*X+g*Y) (ht:t=f*d+c+g*e):V+p*(t%4294967296)+p*4294967296*(t/4294967296)=f*(X+p*d)+g*(Y+p*e):=by
 have h1:=Int.emod_add_mul_ediv t 4294967296;have h2:p*(t%4294967296)+p*4294967296*(t/4294967296)=p*t:=by
  rw[Bf,<-Pg,h1]
 have h3:p*t=f*(p*d)+p*c+g*(p*e):=by rw[ht];grind
 have h4:f*(X+p*d)=f*X+f*(p*d):=by rw[Pg]
 have h5:g*(Y+p*e)=g*Y+g*(p*e):=by rw[Pg]
 omega
theorem Ak3 {V P:Nat} {c R:Int} (hV:V<P) (h:(V:Int)+P*c=R) (h0:0<=R) (h1:R<P):(V:Int)=R:=by
 have hc:c=0:=by
  rcases Int.lt_trichotomy c 0 with hc|hc|hc
  ·have:(P:Int)*c<=P*(-1):=Qf D' D'
   omega
  ·exact hc
  ·have:(P:Int)*1<=P*c:=Qf D' D'
   omega
 subst hc;omega
theorem nD (x y:Nat):Jf y (x%y)=Jf x y:=by
 rw[Th x y,Nat.gcd_rec y x];exact Th _ _
def zv (neg:Bool) (m:a_):Int:=bif neg then -(val m:Int) else (val m:Int)
abbrev rZ (q neg:Bool) (m:a_):d_:=[.bool neg,.sl q (m.map BK)]
abbrev eZ (z:Int):d_:=rZ false (decide (z<0)) (dg z.natAbs)
theorem IP (neg:Bool) (m:a_):(zv neg m).natAbs=val m:=by cases neg<;>simp [zv]
theorem JE (z:Int):zv (decide (z<0)) (dg z.natAbs)=z:=by
 unfold zv;rw[EH];by_cases h:z<0
 ·simp [h];omega
 ·simp [h];omega
def Sm (n:Nat) (m:a_):Prop:=CM m/\m.length<=n
theorem Sm.dg {n V:Nat} (h:V<4294967296^n):Sm n (dg V):=⟨HM V,WZ.2 h⟩
theorem Sm.le {n n':Nat} {m:a_} (h:Sm n m) (hn:n<=n'):Sm n' m:=⟨h.1,by have:=h.2;omega⟩
theorem Sm.val {n:Nat} {m:a_} (h:Sm n m):val m<4294967296^n:=Qc (JD h.1) (ye D' h.2)
theorem Sm.Gk {n:Nat} {m:a_} (h:Sm n m):Sm n (Go.j4.dg (Go.j4.val m)):=Sm.dg h.val
theorem IO {z:Int} {b:Bool} {n:Nat} (h1:n=z.natAbs) (h2:b=decide (z<0)):AV.agg [.bool b,.sl false ((dg n).map BK)] = .agg (eZ z):=by rw[h1,h2]
theorem HA (z:Int):CI (.agg (eZ z)):=by
 simp only[CI,ES,and_true,true_and];exact EW _
theorem WG {z:Int} (h:z<0):true=decide (z<0):=by simp [h]
theorem LG {z:Int} (h:0<=z):false=decide (z<0):=by simp;omega
theorem uG (n:Nat):Sm n []:=⟨jL,Nat.zero_le _⟩
theorem Abh {n d:Nat} (hn:1<=n) (hd:d<4294967296):Sm n [d]:=⟨NF hd,hn⟩
theorem AhU (b:Bool):zv b []=0:=by cases b<;>rfl
theorem Sm.low {n V:Nat} {m:a_} (h:Sm n m) (hV:V<=Go.j4.val m):Sm n (Go.j4.dg V):=Sm.dg (We hV h.val)
theorem Sm.mul {n k:Nat} {a b:a_} (ha:Sm n a) (hb:Sm k b) {V:Nat} (hV:V=Go.j4.val a*Go.j4.val b):Sm (n+k) (Go.j4.dg V):=by
 refine Sm.dg ?_;rw[hV,Hd];exact Nat.mul_lt_mul_of_le_of_lt (Nat.le_of_lt ha.val) hb.val (Sg D')
theorem Sm.add {n:Nat} {a b:a_} (ha:Sm n a) (hb:Sm n b) {V:Nat} (hV:V<=Go.j4.val a+Go.j4.val b):Sm (n+1) (Go.j4.dg V):=by
 refine Sm.dg ?_;have h1:=ha.val;have h2:=hb.val;rw[Ge];omega
theorem OP (V:Nat):(dg V).length=0↔V=0:=by rw[List.length_eq_zero_iff,xI]
theorem II (m:a_):zv false m=(val m:Int):=rfl
theorem YP (m:a_):zv true m = -(val m:Int):=rfl
def ah (z:Int):Int:=if z<0 then -1 else if 0<z then 1 else 0
theorem Abd {z:Int} (h:z<0) : -1=ah z:=by unfold ah;rw[if_pos h]
theorem Abe {z:Int} (h:0<z):1=ah z:=by unfold ah;rw[if_neg D',if_pos h]
theorem uF {z:Int} (h:z=0):0=ah z:=by unfold ah;rw[if_neg D',if_neg D']
theorem Aho {n:Nat} (h:n<18446744073709551616):val [n%4294967296,n/4294967296]=n:=(by simp [val];omega)
abbrev rQ (q1 q2 n:Bool) (m d:a_):d_:=[.bool n,.sl q1 (m.map BK),.sl q2 (d.map BK)]
abbrev eQ (x:Rat):d_:=rQ false false (decide (x.num<0)) (dg x.num.natAbs) (dg x.den)
def qv (n:Bool) (m d:a_):Rat:=mkRat (zv n m) (val d)
theorem H6 (x:Rat):qv (decide (x.num<0)) (dg x.num.natAbs) (dg x.den)=x:=by
 unfold qv;rw[JE,EH,rh]
theorem Aez {d:Nat} (z:Nat) (hd:d≠0):0<Jf d z:=Nat.gcd_pos_of_pos_left z D'
theorem Zk {z:Int} {d:Nat} (hd:d≠0):(mkRat z d).num.natAbs=z.natAbs/Jf d z.natAbs/\(mkRat z d).den=d/Jf d z.natAbs/\decide ((mkRat z d).num<0)=decide (z<0):=by
 have hg:=Aez z.natAbs hd;have h1:=Rat.num_mkRat z d;have h2:=Rat.den_mkRat z d;rw[if_neg hd]at h1 h2;rw[h1,h2];obtain ⟨k,hk⟩:=Nat.gcd_dvd_right d z.natAbs;generalize hG:Jf d z.natAbs=g at *;have hz:z=(g:Int)*(z.sign*k):=by
  rw[<-Bf,Int.mul_comm (g:Int),Bf,<-Kf,<-hk,Int.sign_mul_natAbs]
 have e1:z/(g:Int)=z.sign*k:=by
  rw[hz,Int.mul_ediv_cancel_left _ D',<-hz]
 refine ⟨?_,rfl,?_⟩
 ·rw[e1,yf,hk,Nat.mul_div_cancel_left _ hg]
  by_cases h0:z=0
  ·subst h0
   have:k=0:=by
    have h5:g*k=0:=hk.symm;rcases Nat.mul_eq_zero.1 h5 with h|h
    ·omega
    ·exact h
   subst this;simp
  ·rw[Int.natAbs_sign_of_ne_zero h0,Nat.one_mul];simp
 ·congr 1
  rw[eq_iff_iff];rw[Int.ediv_lt_iff_lt_mul D',Int.zero_mul]
theorem GD (x:Rat):CI (.agg (eQ x)):=by
 simp only[CI,ES,and_true,true_and];exact ⟨EW _,EW _⟩
theorem lZ (b w:Bool) (m d:a_):CI (.agg [.bool b,.sl false (m.map BK),.sl false (d.map BK),.bool w]):=by
 simp only[CI,ES,and_true,true_and];exact ⟨EW _,EW _⟩
theorem AcF (b:Bool) (m:a_):CI (.agg [.bool b,.sl false (m.map BK)]):=by
 simp only[CI,ES,and_true,true_and];exact EW _
theorem qU (b:Bool) (m d:a_):CI (.agg [.bool b,.sl false (m.map BK),.sl false (d.map BK)]):=by
 simp only[CI,ES,and_true,true_and];exact ⟨EW _,EW _⟩
theorem mZ (q:Bool) (l:a_):lH (.sl q (l.map BK)):=by
 intro e he c hc;obtain ⟨x,_,rfl⟩:=Od.1 he;simp at hc;subst hc;rfl
theorem vH {r:AV} {K:AV->Prop} (h:Q9 r) (hk:K (Iv r)):DQ r K:=⟨Or.inl h,by rw[Zb h];exact hk⟩
theorem AiR {r:AV} {K:AV->Prop} (h : ¬ Q9 r) (hd:dT r) (hk:K (SE r)):DQ r K:=⟨Or.inr hd,by rw[Za h];exact hk⟩
theorem L5 {b w q1 q2:Bool} {m d:a_} {K:AV->Prop} (hk:K (.agg [.bool b,.sl true (m.map BK),.sl true (d.map BK),.bool w])):DQ (.agg [.bool b,.sl q1 (m.map BK),.sl q2 (d.map BK),.bool w]) K:=by
 refine vH ?_ hk;intro c hc;simp only[Gc,Oe,or_false]at hc;rcases hc with rfl|rfl|rfl|rfl
 ·trivial
 ·exact mZ _ _
 ·exact mZ _ _
 ·trivial
theorem AbX {b q1 q2:Bool} {m d:a_} {K:AV->Prop} (hk:K (.agg [.bool b,.sl true (m.map BK),.sl true (d.map BK)])):DQ (.agg [.bool b,.sl q1 (m.map BK),.sl q2 (d.map BK)]) K:=by
 refine vH ?_ hk;intro c hc;simp only[Gc,Oe,or_false]at hc;rcases hc with rfl|rfl|rfl
 ·trivial
 ·exact mZ _ _
 ·exact mZ _ _
theorem dV {b q1:Bool} {m:a_} {K:AV->Prop} (hk:K (.agg [.bool b,.sl true (m.map BK)])):DQ (.agg [.bool b,.sl q1 (m.map BK)]) K:=by
 refine vH ?_ hk;intro c hc;simp only[Gc,Oe,or_false]at hc;rcases hc with rfl|rfl
 ·trivial
 ·exact mZ _ _
theorem Yw : ∀ l:a_,W8 (l.map BK)=l.map BK
 | []=>by simp [W8]
 | x::l=>by rw[ta,W8,Yw l];rfl
theorem iS {b b2 q1 q2:Bool} {m d:a_} {K:AV->Prop} (hk:K (.e9 [.agg [.bool b,.sl true (m.map BK)],.agg [.bool b2,.sl true (d.map BK)]])):DQ (.e9 [.agg [.bool b,.sl q1 (m.map BK)],.agg [.bool b2,.sl q2 (d.map BK)]]) K:=by
 refine AiR (λ h=>h) (λ v hv => ?_) ?_
 ·simp only[Gc,Oe,or_false]at hv
  rcases hv with rfl|rfl<;>trivial
 ·have e:SE (.e9 [.agg [.bool b,.sl q1 (m.map BK)],.agg [.bool b2,.sl q2 (d.map BK)]]) = .e9 [.agg [.bool b,.sl true (W8 (m.map BK))],.agg [.bool b2,.sl true (W8 (d.map BK))]]:=rfl
  rw[e,Yw,Yw];exact hk
theorem sQ {a b:Int} {d e:Nat} (hd:d≠0) (he:e≠0):mkRat a d+mkRat b e=mkRat (a*e+b*d) (d*e):=Rat.mkRat_add_mkRat a b hd he
theorem Afq {a b:Int} {d:Nat} (hd:d≠0):mkRat a d+mkRat b d=mkRat (a+b) d:=by
 rw[sQ hd hd,<-Int.add_mul,Og hd]
theorem Zi (a b:Int) (d e:Nat):mkRat a d*mkRat b e=mkRat (a*b) (d*e):=Rat.mkRat_mul_mkRat a b d e
theorem Afs (a:Int):mkRat a 1=(a:Rat):=by
 have h:=rh (a:Rat);rw[Gg,Bg]at h;exact h
theorem Zj {z:Int} {d:Nat} (hd:d≠0):mkRat z d=0↔z=0:=Rat.mkRat_eq_zero hd
theorem Xi {z:Int} {d:Nat} (hd:d≠0):ah (mkRat z d).num=ah z:=by
 obtain ⟨_,_,h⟩:=Zk (z:=z) hd;have h0:(mkRat z d).num=0↔z=0:=by rw[Rat.num_eq_zero,Zj hd]
 have h1:(mkRat z d).num<0↔z<0:=by simpa using h
 unfold ah;by_cases a:z<0
 ·rw[if_pos a,if_pos (h1.2 a)]
 ·rw[if_neg a,if_neg (λ h=>a (h1.1 h))]
  by_cases b:z=0
  ·rw[if_neg D',if_neg (by have:=h0.2 b;omega)]
  ·rw[if_pos D',if_pos (by have:=mt h0.1 b;have:=mt h1.1 a;omega)]
theorem AqH {a b:Int} {d e:Nat} (hd:d≠0) (he:e≠0) (hb:b≠0):mkRat a d/mkRat b e=mkRat (b.sign*(a*e)) (d*b.natAbs):=by
 have hbn:b.natAbs≠0:=D'
 have h1:mkRat b e≠0:=λ h=>hb ((Zj he).1 h)
 have key:mkRat (b.sign*(a*e)) (d*b.natAbs)*mkRat b e=mkRat a d:=by
  rw[Zi];have e1:b.sign*(a*e)*b=a*((b.natAbs*e:Nat):Int):=by
   have:=Int.sign_mul_self b
   rw[Kf,<-this];grind
  rw[e1,show d*b.natAbs*e=d*(b.natAbs*e) by rw[Kd]];exact Og (Nat.mul_ne_zero hbn he)
 rw[<-key,Rat.mul_div_cancel h1]
theorem Atg {x y:Int} (hy:y≠0):zv (decide (x<0) != decide (y<0)) (dg x.natAbs)=y.sign*x:=by
 unfold zv;rw[EH];rcases Int.lt_or_gt_of_ne hy with h|h
 ·rw[Int.sign_eq_neg_one_of_neg h]
  by_cases hx:x<0
  ·simp [hx,h];omega
  ·simp [hx,h];omega
 ·rw[Int.sign_eq_one_of_pos h]
  by_cases hx:x<0
  ·simp [hx,show ¬ y<0 by omega];omega
  ·simp [hx,show ¬ y<0 by omega];omega
def Bt (k:Nat) (x:Rat):Prop:=x.num.natAbs<=2^k/\x.den<=2^k
theorem Bt.le {k l:Nat} {x:Rat} (h:Bt k x) (hl:k<=l):Bt l x:=by
 have:=ye (show 0<2 by omega) hl
 exact ⟨lf h.1 this,lf h.2 this⟩
theorem Bt.mk {k:Nat} {z:Int} {d:Nat} (hz:z.natAbs<=2^k) (hd:d<=2^k):Bt k (mkRat z d):=by
 by_cases h0:d=0
 ·subst h0
  rw[Rat.mkRat_zero];exact ⟨p_,by simp;exact Dd⟩
 ·obtain ⟨e1,e2,_⟩:=Zk (z:=z) h0
  unfold Bt;rw[e1,e2];exact ⟨lf (yh _ _) hz,lf (yh _ _) hd⟩
theorem Bt.add {k l:Nat} {x y:Rat} (hx:Bt k x) (hy:Bt l y):Bt (k+l+1) (x+y):=by
 rw[Rat.add_def'];refine Bt.mk ?_ ?_
 ·have h1:(x.num*y.den).natAbs<=2^k*2^l:=by rw[yf,Jg];exact fe hx.1 hy.2
  have h2:(y.num*x.den).natAbs<=2^l*2^k:=by rw[yf,Jg];exact fe hy.1 hx.2
  rw[Ee (2^l)]at h2;rw[Ge,Hd];have h3:=Int.natAbs_add_le (x.num*y.den) (y.num*x.den);omega
 ·rw[Ge,Hd]
  have:=fe hx.2 hy.2
  omega
theorem Bt.mul {k l:Nat} {x y:Rat} (hx:Bt k x) (hy:Bt l y):Bt (k+l) (x*y):=by
 rw[Rat.mul_def'];refine Bt.mk ?_ ?_
 ·rw[yf,Hd];exact fe hx.1 hy.1
 ·rw[Hd];exact fe hx.2 hy.2
theorem Bt.zero (k:Nat):Bt k 0:=⟨p_,by simp;exact Dd⟩
theorem Bt.one (k:Nat):Bt k 1:=⟨by simp;exact Dd,by simp;exact Dd⟩
theorem Bt.dig {k n:Nat} {x:Rat} (h:Bt k x) (hn:k<32*n):Sm n (dg x.num.natAbs)/\Sm n (dg x.den):=by
 have e:2^k<4294967296^n:=by
  rw[show 4294967296=2^32 from rfl,<-Nat.pow_mul];exact (Nat.pow_lt_pow_iff_right D').2 hn
 exact ⟨Sm.dg (We h.1 e),Sm.dg (We h.2 e)⟩
def Bs (k:Nat) (l:Z_):Prop := ∀ x∈l,Bt k x
theorem Bs.at {k:Nat} {l:Z_} (h:Bs k l) {i:Nat} {x:Rat} (hx:l[i]? = some x):Bt k x:=h x (zM hx)
theorem Bs.le {k j:Nat} {l:Z_} (h:Bs k l) (hj:k<=j):Bs j l:=λ x hx=>(h x hx).le hj
theorem Bs.take {k:Nat} {l:Z_} (h:Bs k l) (n:Nat):Bs k (l.take n):=λ x hx=>h x (Be hx)
def B4:Z_->Z_->Rat
 | x::xs,y::ys=>x*y+B4 xs ys
 | _,_=>0
theorem jM (l:Z_):B4 l []=0:=by cases l<;>rfl
theorem Ado : ∀ {a b:Z_} {x y:Rat},a.length=b.length->B4 (a++[x]) (b++[y])=B4 a b+x*y
 | [],[],x,y,_=>by show x*y+0=0+x*y;rw[pf,Rat.zero_add]
 | p::a,q::b,x,y,h=>by
  show p*q+B4 (a++[x]) (b++[y])=p*q+B4 a b+x*y;rw[Ado (by simpa using h),Rat.add_assoc]
theorem fD {a b:Z_} {i:Nat} {x y:Rat} (hx:a[i]? = some x) (hy:b[i]? = some y):B4 (a.take (i+1)) (b.take (i+1))=B4 (a.take i) (b.take i)+x*y:=by
 have h1:=(zS hx).1;have h2:=(zS hy).1;rw[rf,rf,hx,hy,Wg,Wg,Ado (by rw[Qd,Qd];omega)]
theorem aL {a b:Z_} {n:Nat} (h:a.length=n):B4 (a.take n) (b.take n)=B4 a b:=by
 subst h;rw[zT (Pc _)];induction a generalizing b with
 | nil=>cases b<;>rfl
 | cons x a ih=>cases b with
  | nil=>rfl
  | cons y b=>simp only[Wc,List.take_succ_cons,B4,ih]
theorem Bs.dot {k l:Nat} : ∀ {a b:Z_},Bs k a->Bs l b->Bt (a.length*(k+l+1)) (B4 a b)
 | [],b,_,_=>by cases b<;>exact Bt.zero _
 | x::a,[],_,_=>Bt.zero _
 | x::a,y::b,ha,hb=>by
  have h1:=(ha x p_).mul (hb y p_);have h2:=Bs.dot (a:=a) (b:=b) (λ z hz=>ha z (by simp [hz])) (λ z hz=>hb z (by simp [hz]));refine (h1.add h2).le ?_;rw[Wc,dh];omega
def jC (a b:Z_):Z_:=List.zipWith (· + ·) a b
theorem Adl : ∀ {a u v:Z_},u.length=v.length->B4 a (jC u v)=B4 a u+B4 a v
 | [],_,_,_=>by simp only[B4];rw[pf]
 | x::a,[],[],_=>by simp only[jC,List.zipWith_nil_left,B4];rw[pf]
 | x::a,p::u,q::v,h=>by
  show x*(p+q)+B4 a (jC u v)=_;rw[Adl (by simpa using h)];simp only[B4];grind
structure G3 where
 a:Y_
 b:Z_
 c:Z_
 d:Rat
structure G3.Ok (S:G3) (n k:Nat):Prop where
 la:S.a.length=n
 lr : ∀ r∈S.a,r.length=n
 lb:S.b.length=n
 lc:S.c.length=n
 ba : ∀ r∈S.a,Bs k r
 bb:Bs k S.b
 bc:Bs k S.c
 bd:Bt k S.d
def G3.out (S:G3) (now:Z_) (x:Rat):Rat:=B4 S.c now+S.d*x
def kF (now:Z_) (x:Rat):Y_->Z_->Z_
 | r::a,b::bs=>(B4 r now+b*x)::kF now x a bs
 | _,_=>[]
def G3.next (S:G3) (now:Z_) (x:Rat):Z_:=kF now x S.a S.b
def G3.state (S:G3):Z_->Z_->Z_
 | now,[]=>now
 | now,x::xs=>S.state (S.next now x) xs
def G3.outs (S:G3):Z_->Z_->Z_
 | _,[]=>[]
 | now,x::xs=>S.out now x::S.outs (S.next now x) xs
theorem AfA (now:Z_) (x:Rat) : ∀ (a:Y_) (b:Z_),a.length=b.length->(kF now x a b).length=a.length
 | [],[],_=>rfl
 | r::a,y::b,h=>by simp only[kF,Wc];rw[AfA now x a b (by simpa using h)]
theorem Xp (now:Z_) (x:Rat) : ∀ (a:Y_) (b:Z_) (i:Nat) (r:Z_) (y:Rat),a[i]? = some r->b[i]? = some y->(kF now x a b)[i]? = some (B4 r now+y*x)
 | [],_,i,r,y,h,_=>by simp at h
 | _::_,[],i,r,y,_,h=>by simp at h
 | r0::a,y0::b,0,r,y,h,h'=>by
  simp at h h';subst h;subst h';rfl
 | r0::a,y0::b,i+1,r,y,h,h'=>by
  simp only[kF,Cd]at h h' ⊢;exact Xp now x a b i r y h h'
theorem AgZ (S:G3) (x:Rat) : ∀ (xs now:Z_),S.state now (xs++[x])=S.next (S.state now xs) x
 | [],_=>rfl
 | y::xs,now=>AgZ S x xs (S.next now y)
theorem Yd (S:G3) (x:Rat) : ∀ (xs now:Z_),S.outs now (xs++[x])=S.outs now xs++[S.out (S.state now xs) x]
 | [],_=>rfl
 | y::xs,now=>by
  show S.out now y::S.outs (S.next now y) (xs++[x])=_;rw[Yd S x xs (S.next now y)];rfl
theorem Yb (S:G3) : ∀ (xs now:Z_),(S.outs now xs).length=xs.length
 | [],_=>rfl
 | y::xs,now=>by simp only[G3.outs,Wc,Yb S xs]
theorem G3.Ok.ry {S:G3} {n k:Nat} (h:S.Ok n k) (now:Z_) (x:Rat):(S.next now x).length=n:=by
 unfold G3.next;rw[AfA _ _ _ _ (by rw[h.la,h.lb]),h.la]
theorem G3.Ok.uv {S:G3} {n k:Nat} (h:S.Ok n k) : ∀ (xs now:Z_),now.length=n->(S.state now xs).length=n
 | [],_,hn=>hn
 | x::xs,now,_=>h.uv xs _ (h.ry now x)
def K4:Nat->Z_
 | 0=>[]
 | n+1=>1::Ub n 0
theorem ApO (n:Nat):(K4 n).length=n:=by cases n<;>simp [K4]
theorem AeM (k n:Nat):Bs k (K4 n):=by
 intro x hx;cases n with
 | zero=>simp [K4]at hx
 | succ n =>
  simp only[K4,Gc,List.mem_replicate]at hx;rcases hx with rfl|⟨_,rfl⟩
  ·exact Bt.one k
  ·exact Bt.zero k
def JR (n:Nat) (j:Int):Z_:=(He n).map λ i:Nat=>if (i:Int)=j then 1 else 0
theorem Zn (n:Nat) (j:Int):(JR n j).length=n:=by simp [JR]
theorem AsR (n:Nat) (j:Int):JR (n+1) j=JR n j++[if (n:Int)=j then 1 else 0]:=by simp [JR,List.range_succ]
theorem AsQ (n:Nat):JR n (-1)=Ub n 0:=by
 refine Sc λ i => ?_
 simp only[JR,Uc,Ke,Sd];by_cases h:i<n
 ·rw[Sd h,if_pos h]
  simp
 ·rw[Hb W_,if_neg h];rfl
theorem AsS (n:Nat):JR n 0=K4 n:=by
 refine Sc λ i => ?_
 cases n with
 | zero=>simp [JR,K4]
 | succ n =>
  simp only[JR,Uc,K4];cases i with
  | zero=>rw[Sd D'];simp
  | succ i =>
   rw[Cd,Ke];by_cases h:i<n
   ·rw[Sd D',if_pos h]
    simp
   ·rw[Hb W_,if_neg h];rfl
abbrev eO:Option Rat->d_
 | none=>[.bool false,.nil,.nil]
 | some x=>eQ x
def IL (l:Z_) (m:Nat):List (Option Rat):=l.map some++Ub (m-l.length) none
theorem aT (m:Nat):IL [] m=Ub m none:=by simp [IL]
theorem ZF {l:Z_} {m:Nat} (h:l.length<=m):(IL l m).length=m:=by simp [IL];omega
theorem aU {l:Z_} {m:Nat} {x:Rat} (h:l.length<m):(IL l m).set l.length (some x)=IL (l++[x]) m:=by
 unfold IL;have e:m-l.length=(m-(l++[x]).length)+1:=by simp;omega
 rw[e,Td,cg _ _ p_];simp
theorem aS {l:Z_} {m:Nat} (h:l.length=m):(IL l m).map eO=l.map eQ:=by
 unfold IL;rw[h,vg];simp [Mh]
abbrev eS (S:G3):d_:=[.sl false (S.a.map λ r=>[AV.sl false (r.map eQ)]),.sl false (S.b.map eQ),.sl false (S.c.map eQ)]++eQ S.d
theorem OL (l:Z_):J6 (l.map eQ):=jJ (λ x=>by simp only[ES,CI,and_true,true_and];exact ⟨EW _,EW _⟩) l
theorem VV {l:Z_} {i:Nat} {x:Rat} (h:l[i]? = some x):l.take (i+1)=l.take i++[x]:=by
 rw[rf,h];rfl
theorem Ak1 (a b:Z_) (e:Int):CI (.e9 [.sl false (a.map eQ),.sl false (b.map eQ),.int .i64 e]):=by
 simp only[CI,ES,and_true,true_and];exact ⟨OL a,OL b⟩
theorem Ak2 (a:Z_) (e:Int):CI (.e9 [.sl false (a.map eQ),.int .i64 e]):=by
 simp only[CI,ES,and_true,true_and];exact OL a
theorem AkU (S:G3):CI (.agg (eS S)):=by
 have h:J6 (S.a.map λ r=>[AV.sl false (r.map eQ)]):=jJ (λ r=>by simp only[ES,CI,and_true,true_and];exact OL r) S.a;simp only[CI,ff,ve,ES,and_true,true_and];exact ⟨h,OL _,OL _,EW _,EW _⟩
def kN (N:Nat):List Q7->Bool
 | []=>true
 | .tmp t::r=>oe t N&&kN N r
 | .cell t _ _::r=>oe t N&&kN N r
theorem Wz {N:Nat} {s s':St} (ho:s.own=s'.own) (zn : ∀ j,j<N->j6 s'.tm j=j6 s.tm j) : ∀ {res:List Q7},kN N res=true->res.mapM (JL s)=res.mapM (JL s')
 | [],_=>rfl
 | .tmp t::r,h=>by
  simp only[kN,Sa]at h;have:=Wz ho zn h.2
  simp only[Gb,JL,zn t (eH.1 h.1),this]
 | .cell t agg n::r,h=>by
  simp only[kN,Sa]at h;have:=Wz ho zn h.2
  simp only[Gb,JL,zn t (eH.1 h.1),this,ho]
def Ajp (N:Nat) (fn:AFn) (tm:Tm) (K:AV->Mem->Prop) (gu:Tm) (M':Mem):Prop:=gh N gu=tm/\tU gu M' fn.res (λ rs=>rsv rs λ v=>K v M')
theorem J1 {L:Lib} {f:Nat} {fn:AFn} {vs:d_} {tm:Tm} {M:Mem} {K:AV->Mem->Prop} (N:Nat) (hL:L f=some fn) (hp:Wa vs.length fn.gq=true) (hN:(Ue fn.gq N&&(OE N fn.body&&kN N fn.res))=true)
  (h:AJ L [.code fn.body] (FK 0 vs++LH N tm) M (Ajp N fn tm K)):CZ L f vs tm M K:=by
 intro σ own hs;simp only[Sa]at hN;obtain ⟨n1,n2,n3⟩:=hN;have n1:=ud n1;have hp:vs.length=fn.gq:=td hp;have hrx:RX σ (FK 0 vs++LH N tm) M ⟨V8 (DJ σ) (FK 0 vs++LH N tm),own⟩:=⟨λ j=>Or.inr (by rw[RM];exact RQ (VS σ) j _),hs⟩;obtain ⟨n,c,s',hr,σ',gu,M',hR,hg,Eg⟩:=h σ _ hrx;have hgh:Gh N (V8 (DJ σ) (LH N tm)) (FK 0 (vs.map (DJ σ))) (V8 (DJ σ) (FK 0 vs++LH N tm)):=by
  constructor
  ·intro j hj
   rw[Yj,RQ (VS σ),RQ (VS σ)];rcases pB j (LH N tm) (FK 0 vs) with ⟨_,e⟩|⟨hn,e⟩
   ·rw[e]
   ·rw[e,Zm hj,Abz j 0 vs hn]
  ·intro j hj
   rw[RQ (VS σ),RQ (VS σ)];rcases pB j (LH N tm) (FK 0 vs) with ⟨hn,e⟩|⟨_,e⟩
   ·have:=zZ j 0 vs hn
    omega
   ·rw[e]
 obtain ⟨s,r1,r2,r3⟩:=QB n (by simp [aW,n2]) hgh hr;obtain ⟨rs,i1,i2,i3⟩:=Wy hR Eg;rw[<-Wz (s:=s) r2.symm r3.lo n3,i3]at i1;have key : ∃ r,N1 (rs.map (DM σ'))=DJ σ' r/\K r M':=by
  match rs,i2,i3 with
  | [],h,_=>exact ⟨.e9 [],rfl,h⟩
  | [v],h,e =>
   simp only[ta,xd,Sf,and_true]at e;exact ⟨v,by simp only[ta,xd,N1];exact e.symm,h⟩
  | a::b::l,h,_=>exact ⟨.e9 (a::b::l),rfl,h⟩
 obtain ⟨r,k1,k2⟩:=key;refine ⟨r,s.own,σ',M',LL.intro hL (by simpa using hp) ⟨n,c,s,r1,?_,rfl⟩,?_,?_,k2⟩
 ·rw[i1,Wb,k1]
 ·rw[<-r2];exact hR.sat
 ·intro j
  have e1:tg tm j=tg gu (N+j):=by rw[RM,RM,<-hg,Aby]
  rcases hR.tm (N+j) with e|e
  ·rw[e1,e];rfl
  ·rw[e1,<-e,r3.hi (N+j) D',RQ (VS σ),Zl,<-RM,e1]
theorem Bs.getD {k:Nat} {l:Z_} (h:Bs k l) (i:Nat):Bt k (l.getD i 0):=by
 rw[zc];cases e:l[i]? with
 | none=>exact Bt.zero k
 | some x=>exact h.at e
theorem Bt.ofInt {k:Nat} {z:Int} (h:z.natAbs<=2^k):Bt k ((z:Int):Rat):=⟨by rw[Gg];exact h,by rw[Bg];exact Dd⟩
theorem Afy (σ:JF) (k:Nat) : ∀ (n i:Nat),EN σ k i (Ub n none)=Ub n [.nil]
 | 0,_=>rfl
 | n+1,i=>by
  rw[Td,Td];show [AV.nil]::EN σ k (i+1) (Ub n none)=_;rw[Afy σ k n (i+1)]
theorem Ah2 {L:Lib} {kk:List It} {tm:Tm} {M:Mem} {Q:Tm->Mem->Prop} (k s n:Nat) (e:c7 M k=some (s,.mx (Ub n none))) (h:AJ L kk tm ((k,s,.rw 1 (Ub n [.nil]))::M) Q):AJ L kk tm M Q:=by
 intro σ st hr;have hg : ∀ j t c,b7 ((k,s,.rw 1 (Ub n [.nil]))::M) j t=some c -> ∃ c0,b7 M j t=some c0/\c0.g8 σ j=c.g8 σ j:=by
  intro j t c g;by_cases hj:j=k
  ·subst hj
   cases t with
   | zero =>
    have h1:c7 ((j,s,C4.rw 1 (Ub n [.nil]))::M) j=some (s,.rw 1 (Ub n [.nil])):=by simp [c7]
    simp only[b7,h1,ka]at g;subst g;refine ⟨.mx (Ub n none),by simp only[b7,e],?_⟩;simp only[C4.g8,Afy]
   | succ i =>
    have h1:c7 ((j,s,C4.rw 1 (Ub n [.nil]))::M) j=some (s,.rw 1 (Ub n [.nil])):=by simp [c7]
    simp only[b7,h1]at g;cases g
  ·have h1:c7 ((k,s,C4.rw 1 (Ub n [.nil]))::M) j=c7 M j:=by
    have hb:Wa j k=false:=by
     cases Ab:Wa j k with
     | false=>rfl
     | true=>exact absurd (td Ab) hj
    simp only[c7,hb,cond_false]
   refine ⟨c,?_,rfl⟩;simp only[b7,h1]at g ⊢;exact g
 refine h σ st ⟨hr.tm,⟨?_,?_,?_,?_,?_⟩⟩
 ·intro j s' c g
  by_cases hj:j=k
  ·subst hj
   have h1:c7 ((j,s,C4.rw 1 (Ub n [.nil]))::M) j=some (s,.rw 1 (Ub n [.nil])):=by simp [c7]
   rw[h1]at g;simp only[ka,oc]at g;obtain ⟨rfl,_⟩:=g;exact hr.sat.site _ _ _ e
  ·have h1:c7 ((k,s,C4.rw 1 (Ub n [.nil]))::M) j=c7 M j:=by
    have hb:Wa j k=false:=by
     cases Ab:Wa j k with
     | false=>rfl
     | true=>exact absurd (td Ab) hj
    simp only[c7,hb,cond_false]
   rw[h1]at g;exact hr.sat.site _ _ _ g
 ·intro j t c g
  obtain ⟨c0,q1,q2⟩:=hg j t c g;rw[<-q2];exact hr.sat.g8 _ _ _ q1
 ·intro j t c g
  obtain ⟨c0,q1,_⟩:=hg j t c g;exact hr.sat.old _ _ _ q1
 ·intro j t j' t' c c' g g' hσ
  obtain ⟨c0,q1,_⟩:=hg j t c g;obtain ⟨c1,q2,_⟩:=hg j' t' c' g';exact hr.sat.inj _ _ _ _ _ _ q1 q2 hσ
 ·intro j t c g hw
  cases t with
  | zero =>
   by_cases hj:j=k
   ·subst hj;exact hr.sat.low _ _ _ (H5 e) rfl
   ·rw[SJ hj]at g;exact hr.sat.low _ _ _ g hw
  | succ t =>
   obtain ⟨c0,q1,_⟩:=hg _ _ _ g;exact hr.sat.low _ _ _ q1 (sS q1)
def GI (m:Y_) (j:Nat):Z_:=m.map λ r=>r.getD j 0
def JQ (r:Z_) (m:Y_) (n:Nat):Z_:=(He n).map λ j=>B4 r (GI m j)
def LF (a m:Y_) (n:Nat):Y_:=a.map λ r=>JQ r m n
def zY (n:Nat):Y_:=(He n).map λ i:Nat=>JR n i
def J4 (m:Y_) (b:Z_):Z_:=m.map λ r=>B4 r b
theorem Alk (m:Y_) (j:Nat):(GI m j).length=m.length:=by simp [GI]
theorem AqP (r:Z_) (m:Y_) (n:Nat):(JQ r m n).length=n:=by simp [JQ]
theorem AqN (a m:Y_) (n:Nat):(LF a m n).length=a.length:=by simp [LF]
theorem Afx (m:Y_) (b:Z_):(J4 m b).length=m.length:=by simp [J4]
structure Sq (n:Nat) (m:Y_):Prop where
 l:m.length=n
 r : ∀ r∈m,r.length=n
theorem Sq.at {n:Nat} {m:Y_} (h:Sq n m) {i:Nat} {r:Z_} (hr:m[i]? = some r):r.length=n:=h.r r (zM hr)
theorem Sq.mul {n:Nat} {a:Y_} (h:a.length=n) (m:Y_):Sq n (LF a m n):=by
 refine ⟨by rw[AqN,h],λ r hr => ?_⟩;obtain ⟨x,_,rfl⟩:=Od.1 hr;exact AqP _ _ _
def Ms (k:Nat) (m:Y_):Prop := ∀ r∈m,Bs k r
theorem Ms.at {k:Nat} {m:Y_} (h:Ms k m) {i:Nat} {r:Z_} (hr:m[i]? = some r):Bs k r:=h r (zM hr)
theorem Ms.getD {k:Nat} {m:Y_} (h:Ms k m) (i j:Nat):Bt k ((m.getD i []).getD j 0):=by
 rw[zc,zc];cases e:m[i]? with
 | none=>exact Bt.zero k
 | some r =>
  simp only[Ve];cases e2:r[j]? with
  | none=>exact Bt.zero k
  | some x=>exact (h.at e).at e2
theorem Ms.col {k:Nat} {m:Y_} (h:Ms k m) (j:Nat):Bs k (GI m j):=by
 intro x hx;obtain ⟨r,hr,rfl⟩:=Od.1 hx;rw[zc];cases e:r[j]? with
 | none=>exact Bt.zero k
 | some x=>exact (h r hr).at e
theorem OR : ∀ a b:Z_,B4 a b=B4 b a
 | [],[]=>rfl
 | [],_::_=>rfl
 | _::_,[]=>rfl
 | x::a,y::b=>by simp only[B4,OR a b,Rat.mul_comm]
theorem xU : ∀ (v:Z_) (n:Nat),B4 (Ub n 0) v=0
 | [],n=>jM _
 | y::v,0=>rfl
 | y::v,n+1=>by rw[Td];simp only[B4,xU v n];grind
theorem Adp (v:Z_) (n:Nat):B4 v (Ub n 0)=0:=by rw[OR,xU]
theorem eV (x:Rat) : ∀ a b:Z_,B4 (a.map (x * ·)) b=x*B4 a b
 | [],_=>by simp [B4]
 | _::_,[]=>by simp [B4]
 | p::a,q::b=>by simp only[ta,B4,eV x a b];grind
theorem AqT {n:Nat} {b:Z_} (hb:b.length=n):J4 (zY n) b=b:=by
 have unit : ∀ (k n i:Nat) (b:Z_),b.length=n->B4 ((Sh k n).map λ a:Nat=>if (a:Int)=((k+i:Nat):Int) then 1 else 0) b=b.getD i 0:=by
  intro k n;induction n generalizing k with
  | zero=>intro i b hb;obtain rfl:=List.eq_nil_of_length_eq_zero hb;simp [B4]
  | succ n ih =>
   intro i b hb;cases b with
   | nil=>simp at hb
   | cons y b =>
    rw[List.range'_succ,ta,B4];cases i with
    | zero =>
     have hz:((Sh (k+1) n).map λ a:Nat=>if (a:Int)=((k+0:Nat):Int) then (1:Rat) else 0)=Ub n 0:=by
      rw[List.eq_replicate_iff];refine ⟨p_,λ x hx => ?_⟩;obtain ⟨a,ha,rfl⟩:=Od.1 hx;rw[if_neg];have:=(List.mem_range'_1.1 ha).1
      omega
     rw[hz,xU,if_pos p_];simp [pf]
    | succ i =>
     have:=ih (k+1) i b (by simpa using hb)
     rw[show k+1+i=k+(i+1) by omega]at this;rw[this,if_neg D',List.getD_cons_succ];grind
 refine Sc λ r => ?_
 simp only[J4,zY,Uc];by_cases h:r<n
 ·rw[Sd h]
  have:=unit 0 n r b hb
  rw[uc]at this;simp only[Wb,JR,List.range_eq_range']at this ⊢;rw[this,zc,zE D'];rfl
 ·rw[Hb W_,Hb D']
  rfl
def wQ (S:G3):Nat->Z_
 | 0=>S.b
 | j+1=>J4 S.a (wQ S j)
def conv (A h:Nat->Rat) (K:Nat):Nat->Rat
 | 0=>0
 | a+1=>conv A h K a+A a*h (K-a)
end Go.j4
