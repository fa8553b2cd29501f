/-
  A region that draws its order: the law.
-/
import Derived.Test.YtpafclijakpknaaGreatB4
import Derived.Test.YtpafclijakpknaaGreatB1
import Derived.IntWalk
set_option linter.unusedSimpArgs false
set_option linter.unusedVariables false
set_option linter.unnecessarySimpa false
namespace Go.c9
open Go.RowKit
section
variable {ops:Array Oper} {md:Region.Mode}
theorem AqR {e:Edge} (h:Region.binds .any e=true) (md:Region.Mode):Region.binds md e=true:=by
 unfold Region.binds at *;split at h<;>simp_all
theorem AlG (ops:Array Oper) (md:Region.Mode) : ∀ (fuel t:Nat) (b9:Array Bool),b9.size=ops.size -> ∀ (k i:Nat),(Region.linearise.go md ops fuel t b9 [])[k]? = some i ->
  ∃ o,ops[i]? = some o /\ ∀ e∈o.after,Region.binds md e=true->b9.getD e.on false=true\/e.on∈(Region.linearise.go md ops fuel t b9 []).take k
 | 0,t,b9,hs,k,i,h=>by simp [Region.linearise.go]at h
 | fuel+1,t,b9,hs,k,i,h=>by
  have Ha:Region.linearise.go md ops (fuel+1) t b9 []=match (Region.ready md ops b9)[t%(Region.ready md ops b9).length]? with
   | some i=>i::Region.linearise.go md ops fuel (t/(Region.ready md ops b9).length) (b9.setIfInBounds i true) []
   | none=>[]:=by
   simp only[Region.linearise.go];change (match (Region.ready md ops b9)[t%(Region.ready md ops b9).length]? with
    | some i=>Region.linearise.go md ops fuel (t/(Region.ready md ops b9).length) (b9.setIfInBounds i true) [i]
    | none=>[].reverse)=_
   cases (Region.ready md ops b9)[t%(Region.ready md ops b9).length]? with
   | none=>rfl
   | some i=>simp only[];rw[linearise_go_acc];rfl
  rw[Ha]at h ⊢;cases hr:(Region.ready md ops b9)[t%(Region.ready md ops b9).length]? with
  | none=>rw[hr]at h;simp at h
  | some q =>
   rw[hr]at h;simp only at h ⊢;obtain ⟨_,oq,hoq,hq⟩:=mem_ready.1 (zM hr);cases k with
   | zero =>
    simp at h;subst h;exact ⟨oq,hoq,λ e he hb => .inl (hq e he hb)⟩
   | succ k =>
    simp at h;obtain ⟨o,ho,hh⟩:=AlG ops md fuel _ _ (by simpa using hs) k i h;refine ⟨o,ho,λ e he hb => ?_⟩;rcases hh e he hb with h1|h1
    ·by_cases heq:e.on=q
     ·right;simp [heq]
     ·left
      rw[getD_set_ne false (Ne.symm heq)]at h1;exact h1
    ·right;simp [h1]
theorem Ae1 {p:Nat->Bool} : ∀ (l:List Nat),(∃ i∈l,p i=false) -> ∃ k i,l[k]? = some i/\p i=false /\ ∀ j∈l.take k,p j=true
 | [],⟨i,hi,_⟩=>by simp at hi
 | x::r,⟨i,hi,hp⟩=>by
  cases hx:p x with
  | false=>exact ⟨0,x,rfl,hx,by simp⟩
  | true =>
   have : ∃ i∈r,p i=false:=by
    rcases List.mem_cons.1 hi with h|h
    ·subst h;rw[hx]at hp;cases hp
    ·exact ⟨i,h,hp⟩
   obtain ⟨k,j,h1,h2,h3⟩:=Ae1 r this;refine ⟨k+1,j,by simpa using h1,h2,λ q hq => ?_⟩;simp only[List.take_succ_cons,List.mem_cons]at hq;rcases hq with h|h
   ·subst h;exact hx
   ·exact h3 q h
theorem progress {l:List AI} (hd:tQ ops l=true) (Nr:md = .gc->Region.departs ops=true) {b9:Array Bool} (hs:b9.size=ops.size) (hr:Region.ready md ops b9=[]) : ∀ j,j<ops.size->b9.getD j false=true:=by
 intro j hj;cases my:b9.getD j false with
 | true=>rfl
 | false =>
  exfalso;simp only[tQ,Bool.and_eq_true]at hd;obtain ⟨⟨_,qt⟩,Fe⟩:=hd;have yb : ∀ i,i<ops.size->b9.getD i false=false -> ¬ ∀ o,ops[i]? = some o -> ∀ e∈o.after,Region.binds md e=true->b9.getD e.on false=true:=λ i hi hl zr=>by
   have:i∈Region.ready md ops b9:=mem_ready.2 ⟨by
    have:i<b9.size:=by omega
    simp [Array.getD,this]at hl ⊢;exact hl,ops[i],Array.getElem?_eq_getElem hi,λ e he hb=>zr ops[i] (Array.getElem?_eq_getElem hi) e he hb⟩
   rw[hr]at this;simp at this
  by_cases hgc:md = .gc
  ·subst hgc
   rw[Nr rfl]at Fe;simp only[Bool.not_true,Bool.false_or,List.all_eq_true,List.mem_range,List.contains_iff_mem]at Fe;obtain ⟨k,i,h1,h2,h3⟩:=Ae1 (p:=λ q=>b9.getD q false) (Region.linearise .gc ops 0) ⟨j,Fe j hj,my⟩;obtain ⟨o,ho,hh⟩:=AlG ops .gc ops.size 0 (Array.replicate ops.size false) (by simp) k i h1;have hi:i<ops.size:=(Array.getElem?_eq_some_iff.1 ho).1;refine yb i hi h2 λ o' Iq e he hb => ?_
   rw[ho]at Iq;obtain rfl:o=o':=by simpa using Iq
   rcases hh e he hb with h4|h4
   ·simp [Array.getD]at h4
   ·exact h3 e.on h4
  ·obtain ⟨k,i,h1,h2,h3⟩:=Ae1 (p:=λ q=>b9.getD q false) (List.range ops.size) ⟨j,by simpa using hj,my⟩
   have Yf:i=k:=by
    have Nj:k<ops.size:=by have:=(zS h1).1;simpa using this
    rw[List.getElem?_range Nj]at h1;simpa using h1.symm
   subst Yf;have hi:i<ops.size:=by have:=(zS h1).1;simpa using this
   refine yb i hi h2 λ o ho e he hb => ?_
   rw[List.all_eq_true]at qt;have uj:(o,i)∈ops.toList.zipIdx:=List.mem_zipIdx_iff_getElem?.2 (by simpa using ho);have h4:=qt (o,i) uj;simp only[Array.all_eq_true_iff_forall_mem,Bool.or_eq_true,decide_eq_true_eq]at h4;rcases h4 e he with h5|h5
   ·exact h3 e.on (by rw[List.take_range];simp;omega)
   ·exfalso
    unfold Region.binds at hb;split at h5
    ·rename_i row AED
     rw[AED]at hb;simp at hb;exact hgc hb
    ·cases h5
variable {B:Nat} {S:Nat->Prop} {w0:World} {m0:M} {N:Nat}
variable {P:Program} {num:Nat->Nat} {C:Cl} {Q:Exit->Act->World->Prop}
def vF (b9:Array Bool) (n:Nat):Nat:=(List.range n).countP (λ j => !b9.getD j false)
theorem AiP {α:Type} {p q:α->Bool} : ∀ {l:List α} {x:α},(∀ y∈l,q y=true->p y=true)->x∈l->p x=true->q x=false->l.countP q<l.countP p
 | [],x,_,hx,_,_=>by simp at hx
 | y::r,x,h,hx,hp,hq=>by
  have hle:r.countP q<=r.countP p:=List.countP_mono_left λ z hz hqz=>h z (by simp [hz]) hqz
  rw[List.countP_cons,List.countP_cons];rcases List.mem_cons.1 hx with rfl|hx
  ·simp only[hp,hq,if_true,Bool.false_eq_true,if_false]
   omega
  ·have:=AiP (l:=r) (λ z hz=>h z (by simp [hz])) hx hp hq
   by_cases hqy:q y=true
   ·simp only[hqy,h y (by simp) hqy,if_true];omega
   ·simp only[hqy,Bool.false_eq_true,if_false]
    split<;>omega
theorem Ax4 (hC:QY P num C) {l:List AI} (m6:qN P num N ops ops.toList l=true) {σ:Nat->St} {rs:List LD} (h:Abg C ops l σ rs) (Nr:md = .gc->Region.departs ops=true)
  (hQ : ∀ m' a',m'.own=(σ l.length).own->OP B S w0 m0 N (k7 (σ l.length).tm) m' a'->Q .normal a' m'.w) :
  ∀ (fuel:Nat) (b9:Array Bool) (a:Act) (m:M),b9.size=ops.size->vF b9 ops.size<=fuel->vT ops (λ j=>b9.getD j false)->m.own=(KS (λ j=>b9.getD j false) rs 0 (d0 σ)).2->OP B S w0 m0 N (KS (λ j=>b9.getD j false) rs 0 (d0 σ)).1 m a->wpAny P md ops Q fuel b9 a m.w:=by
 have hlen:ops.size=l.length:=by have:=(Si m6).1;simpa using this
 have final : ∀ (b9:Array Bool) (a:Act) (m:M),(∀ j,j<ops.size->b9.getD j false=true)->m.own=(KS (λ j=>b9.getD j false) rs 0 (d0 σ)).2->OP B S w0 m0 N (KS (λ j=>b9.getD j false) rs 0 (d0 σ)).1 m a->Q .normal a m.w:=λ b9 a m zr n9 hf=>by
  have:KS (λ j=>b9.getD j false) rs 0 (d0 σ)=(k7 (σ l.length).tm,(σ l.length).own):=by
   rw[<-AeA h l.length (Nat.le_refl _)];refine Ab3 rs 0 _ λ i hi => ?_
   simp only[Nat.zero_add];rw[zr i (by rw[hlen,<-h.len];exact hi)];simp;rw[<-h.len];exact hi
  rw[this]at n9 hf;exact hQ m a n9 hf
 have Vs : ∀ b9:Array Bool,vF b9 ops.size<=0 -> ∀ j,j<ops.size->b9.getD j false=true:=λ b9 h0 j hj=>by
  have h1:vF b9 ops.size=0:=by omega
  unfold vF at h1;rw[List.countP_eq_zero]at h1;simpa using h1 j (by simpa using hj)
 intro fuel;induction fuel with
 | zero =>
  intro b9 a m di hn hdn n9 hf;refine ⟨?_,final b9 a m (Vs b9 hn) n9 hf⟩;cases hr:Region.ready md ops b9 with
  | nil=>rfl
  | cons i r =>
   obtain ⟨h1,o,ho,_⟩:=mem_ready.1 (show i∈Region.ready md ops b9 by rw[hr];simp);have hi:i<ops.size:=(Array.getElem?_eq_some_iff.1 ho).1;have h2:=Vs b9 hn i hi;have qg:i<b9.size:=by omega
   simp [Array.getD,qg]at h1 h2;rw[h1]at h2;cases h2
 | succ fuel ih =>
  intro b9 a m di hn hdn n9 hf;refine ⟨λ hr=>final b9 a m (progress h.ok Nr di hr) n9 hf,λ i hi => ?_⟩;obtain ⟨h1,o,ho,Mz⟩:=mem_ready.1 hi;have hio:i<ops.size:=(Array.getElem?_eq_some_iff.1 ho).1;have qg:i<b9.size:=by omega
  have yj:b9.getD i false=false:=by
   simp [Array.getD,qg]at h1 ⊢;exact h1
  have Ff:i<l.length:=by omega
  have ng:i<rs.length:=by rw[h.len];exact Ff
  have hx:l[i]? = some l[i]:=zE Ff;have hr:rs[i]? = some rs[i]:=zE ng;have ka : ∀ o',ops[i]? = some o' -> ∀ e∈o'.after,Region.binds .any e=true->b9.getD e.on false=true:=λ o' Iq e he hb=>by
   rw[ho]at Iq;obtain rfl:o=o':=by simpa using Iq
   exact Mz e he (AqR hb md)
  obtain ⟨g1,g2,g3,g4⟩:=Asv h hx hr hdn yj ka;have AEt:=(Si m6).2 i o l[i] (by simpa using ho) hx;have Gw : ∀ j,(b9.setIfInBounds i true).getD j false=(decide (j=i)||b9.getD j false):=λ j=>by
   by_cases hji:j=i
   ·subst hji;simp [Array.getD,qg]
   ·rw[getD_set_ne false (Ne.symm hji)];simp [hji]
  refine AoB hC ho AEt hf g1 (λ hg=>by rw[n9];exact g2 hg) λ m' a' uc xg => ?_
  have rh:=g4 _ Gw;refine ih (b9.setIfInBounds i true) a' m' (by simpa using di) ?_ ?_ ?_ ?_
  ·have o5:vF (b9.setIfInBounds i true) ops.size<vF b9 ops.size:=by
    refine AiP (x:=i) (λ j _ hj => ?_) (by simpa using hio) (by simp [yj]) (by rw[Gw];simp);rw[Gw]at hj;simp at hj ⊢;exact hj.2
   omega
  ·intro j oj hj hoj e he hb
   change (b9.setIfInBounds i true).getD j false=true at hj;show (b9.setIfInBounds i true).getD e.on false=true;rw[Gw]at hj ⊢;simp only[Bool.or_eq_true,decide_eq_true_eq]at hj ⊢;rcases hj with rfl|hj
   ·exact .inr (ka oj hoj e he hb)
   ·exact .inr (hdn j oj hj hoj e he hb)
  ·rw[rh,uc,n9]
   rfl
  ·rw[rh]
   rw[n9,g3]at xg;have hd:(l[i]).dst=(rs[i]).d:=(h.fits i _ _ hx hr).d.symm;rw[hd]at xg;exact xg
theorem Ax5 (hC:QY P num C) {id:Nat} {l:List AI} (m6:qN P num N ops ops.toList l=true) (hd:tQ ops l=true) {st n0:St} (o4:JZ C l st=some n0) {m:M} {a:Act} (n9:m.own=st.own) (hf:OP B S w0 m0 N (k7 st.tm) m a)
  (hQ : ∀ m' a',m'.own=n0.own->OP B S w0 m0 N (k7 n0.tm) m' a'->Q .normal a' m'.w):(Code.region id ops true).wp P Q a m.w:=by
 obtain ⟨σ,rs,h0,h1,hl,h2⟩:=trace o4;have hD:Abg C ops l σ rs:=⟨hd,hl,h2⟩;obtain ⟨oa,Yc⟩:=grow hf.mem ((Below.refl m.w.heap.size m.w).drew);have Ep:OP B S w0 m0 N (k7 st.tm) ⟨m.ν,m.own,m.w.drew⟩ a:=⟨oa,hf.ext.trans Yc,λ i=>Yc.cv (hf.tm i),hf.size,hf.defers⟩;have h00:KS (λ j=>(Array.replicate ops.size false).getD j false) rs 0 (d0 σ)=d0 σ:=Ae8 rs 0 _ λ i _=>by simp [Array.getD]
 have key : ∀ md:Region.Mode,(md = .gc->Region.departs ops=true) -> ∀ t,wpOps P ops Q (Region.linearise md ops t) a m.w.drew:=λ md Nr t=>by
  refine wpAny_sound ops.size t (Array.replicate ops.size false) a m.w.drew ?_;refine Ax4 hC m6 hD Nr (by rw[h1];exact hQ) ops.size _ a ⟨m.ν,m.own,m.w.drew⟩ (by simp) ?_ ?_ ?_ ?_
  ·unfold vF
   exact Nat.le_trans List.countP_le_length (by simp)
  ·intro j o hj
   simp [Array.getD]at hj
  ·rw[h00];simp [d0,h0,n9]
  ·rw[h00];simpa [d0,h0] using Ep
 refine wp_region_draw λ t => ?_
 change wpOps P ops Q _ a m.w.drew;unfold Region.schedule;split
 ·exact key .any (λ h=>by cases h) t
 ·rename_i Ya
  have hdp:Region.departs ops=true:=by simp at Ya;exact Ya.2
  split
  ·exact key .text (λ_=>hdp) _
  ·exact key .gc (λ_=>hdp) _
end
end Go.c9
namespace Go.c9
open Go.RowKit
section
variable {B:Nat} {S:Nat->Prop} {w0:World} {m0:M} {N:Nat}
variable {P:Program} {num:Nat->Nat} {C:Cl}
theorem AxI (m:Tm) (l:List Nat) (j:Nat):k7 (gd m l) j=k7 m j\/k7 (gd m l) j = .any:=by
 induction m with
 | nil=>exact .inl rfl
 | cons x r ih =>
  obtain ⟨i,v⟩:=x;simp only[gd];split
  ·by_cases h:j=i
   ·subst h
    rename_i hc;right
    clear ih;induction r with
    | nil=>rfl
    | cons y q ih =>
     obtain ⟨k,u⟩:=y;simp only[gd];split
     ·exact ih
     ·rename_i hk
      have : ¬ j=k:=λ e=>by subst e;exact hk hc
      simp only[k7,if_neg this];exact ih
   ·rcases ih with h1|h1
    ·left;simp only[k7,if_neg h];exact h1
    ·right;exact h1
  ·by_cases h:j=i
   ·left;simp [k7,h]
   ·simp only[k7,if_neg h]
    exact ih
inductive YG (P:Program) (num:Nat->Nat) (N:Nat):List It->List Item->Prop
 | nil:YG P num N [] []
 | code {c:Code} {a:FX} {k:List It} {t:List Item} (h:MW P num N c a=true) (hk:YG P num N k t):YG P num N (.code a::k) (.code c::t)
 | drop {ts ss:List Nat} {k:List It} {t:List Item} (hk:YG P num N k t):YG P num N (.yd ts ss::k) t
 | k8 {id:Nat} {k:List It} {t:List Item} (hk:YG P num N k t):YG P num N (.k8 id::k) (.inBlock id::t)
 | lp {c:Code} {a:FX} {k:List It} {t:List Item} (h:MW P num N c a=true) (hk:YG P num N k t):YG P num N (.lp a::k) (.inLoop c::t)
 | scope {c:Code} {k:List It} {t:List Item} (hk:YG P num N k t):YG P num N k (.inScope c::t)
theorem An2 {b:Frame} {a:Act} {k:List Item} {cs:List Frame} {w:World} {c:Code}:step P (lone (b.at a (.inScope c::k)) cs w) = .next (lone (b.at a k) cs w) :=
 step_lone_go (by simp [stepG,stepG.exec,Frame.at])
theorem Axq {b:Frame} {a:Act} {k:List Item} {cs:List Frame} {w:World} {c:Code}:step P (lone (b.at a (.code (.scope c)::k)) cs w) = .next (lone (b.at a (.code c :: .inScope c::k)) cs w) :=
 step_lone_go (by simp [stepG,stepG.exec,Frame.at])
theorem xH {id:Nat} : ∀ {k:List It} {t:List Item},YG P num N k t -> ∀ {k':List It},OH id k=some k' -> ∃ t',exitTo id t=some t'/\YG P num N k' t'
 | _,_,.nil,k',h=>by simp [OH]at h
 | _,_,.code h0 hk,k',h=>by
  simp only[OH]at h;obtain ⟨t',h1,h2⟩:=xH hk h;exact ⟨t',by simpa [exitTo] using h1,h2⟩
 | _,_,.drop hk,k',h=>by
  simp only[OH]at h;exact xH hk h
 | _,_,.k8 (id:=id') hk,k',h=>by
  simp only[OH]at h;split at h
  ·rename_i he
   subst he;simp only[Option.some.injEq]at h;subst h;exact ⟨_,by simp [exitTo],hk⟩
  ·rename_i he
   obtain ⟨t',h1,h2⟩:=xH hk h;exact ⟨t',by simpa [exitTo,he] using h1,h2⟩
 | _,_,.lp h0 hk,k',h=>by
  simp only[OH]at h;obtain ⟨t',h1,h2⟩:=xH hk h;exact ⟨t',by simpa [exitTo] using h1,h2⟩
 | _,_,.scope hk,k',h=>by
  obtain ⟨t',h1,h2⟩:=xH hk h;exact ⟨t',by simpa [exitTo] using h1,h2⟩
def AhA (B:Nat) (S:Nat->Prop) (w0:World) (m0:M) (N:Nat) (P:Program) (b:Frame) (cs:List Frame) (AE5:Machine) (n0:St):Prop :=
 ∃ a' m' x9,Steps P AE5 (lone { b.at a' x9 with mode := .returning } cs m'.w)/\m'.own=n0.own/\OP B S w0 m0 N (k7 n0.tm) m' a'
theorem AwR (hC:QY P num C) (b:Frame) (cs:List Frame) : ∀ (n:Nat) (k:List It) (st n0:St),run C n k st=some n0 -> ∀ (t:List Item),YG P num N k t -> ∀ (m:M) (a:Act),m.own=st.own->OP B S w0 m0 N (k7 st.tm) m a ->
  AhA B S w0 m0 N P b cs (lone (b.at a t) cs m.w) n0:=by
 intro n;induction n with
 | zero=>intro k st n0 h;simp [run]at h
 | succ n ih =>
  intro k st n0 h t ht;have fin : ∀ (t:List Item),YG P num N [] t -> ∀ (m:M) (a:Act),m.own=st.own->OP B S w0 m0 N (k7 st.tm) m a->st=n0->AhA B S w0 m0 N P b cs (lone (b.at a t) cs m.w) n0:=by
   intro t ht;generalize hk:([]:List It)=kk at ht;induction ht with
   | nil =>
    intro m a n9 hf he;subst he;exact ⟨a,m,[],.one step_end,n9,hf⟩
   | scope qi ue =>
    intro m a n9 hf he;obtain ⟨a',m',x9,h1,h2⟩:=ue hk m a n9 hf he;exact ⟨a',m',x9,.head An2 h1,h2⟩
   | code=>cases hk
   | drop=>cases hk
   | k8=>cases hk
   | lp=>cases hk
  cases k with
  | nil =>
   intro m a n9 hf;simp only[run,Option.some.injEq]at h;exact fin t ht m a n9 hf h
  | cons it k =>
   generalize yl:it::k=kk at ht;induction ht with
   | nil=>cases yl
   | scope qi ue =>
    intro m a n9 hf;obtain ⟨a',m',x9,h1,h2⟩:=ue yl m a n9 hf;exact ⟨a',m',x9,.head An2 h1,h2⟩
   | @k8 id k2 t2 qi ue =>
    intro m a n9 hf;obtain ⟨rfl,rfl⟩:it = .k8 id/\k=k2:=by simpa using yl
    simp only[run]at h;obtain ⟨a',m',x9,h1,h2⟩:=ih k st n0 h t2 qi m a n9 hf;exact ⟨a',m',x9,.head step_inBlock h1,h2⟩
   | @lp c ac k2 t2 m6 qi ue =>
    intro m a n9 hf;obtain ⟨rfl,rfl⟩:it = .lp ac/\k=k2:=by simpa using yl
    simp only[run]at h;obtain ⟨a',m',x9,h1,h2⟩:=ih _ st n0 h (.code c :: .inLoop c::t2) (.code m6 (.lp m6 qi)) m a n9 hf;exact ⟨a',m',x9,.head step_inLoop h1,h2⟩
   | @drop ts ss k2 t2 qi ue =>
    intro m a n9 hf;obtain ⟨rfl,rfl⟩:it = .yd ts ss/\k=k2:=by simpa using yl
    simp only[run]at h;obtain ⟨vj,he⟩:=Asw hf.mem ss;have xg:OP B S w0 m0 N (k7 (gd st.tm ts)) ⟨m.ν,m.own.drop ss,m.w⟩ a:=⟨vj,hf.ext.trans he,λ i=>by
     rcases AxI st.tm ts i with h1|h1
     ·rw[h1];exact he.cv (hf.tm i)
     ·rw[h1];exact .any _,hf.size,hf.defers⟩
    obtain ⟨a',m',x9,h1,h2,h3⟩:=ih k ⟨gd st.tm ts,st.own.drop ss⟩ n0 h t2 qi ⟨m.ν,m.own.drop ss,m.w⟩ a (by simp [n9]) xg;exact ⟨a',m',x9,h1,h2,h3⟩
   | @code c ac k2 t2 m6 qi ue =>
    obtain ⟨rfl,rfl⟩:it = .code ac/\k=k2:=by simpa using yl
    clear ue yl;intro m a n9 hf;cases ac with
    | dr ac ts ss =>
     simp only[MW]at m6;simp only[run]at h;exact ih _ st n0 h _ (.code m6 (.drop qi)) m a n9 hf
    | skip =>
     simp only[run]at h;cases c with
     | skip =>
      obtain ⟨a',m',x9,h1,h2⟩:=ih _ st n0 h _ qi m a n9 hf;exact ⟨a',m',x9,.head step_skip h1,h2⟩
     | label =>
      obtain ⟨a',m',x9,h1,h2⟩:=ih _ st n0 h _ qi m a n9 hf;exact ⟨a',m',x9,.head step_label h1,h2⟩
     | _=>simp [MW]at m6
    | scope ac =>
     simp only[run]at h;cases c with
     | scope c =>
      simp only[MW]at m6;obtain ⟨a',m',x9,h1,h2⟩:=ih _ st n0 h _ (.code m6 (.scope (c:=c) qi)) m a n9 hf;exact ⟨a',m',x9,.head Axq h1,h2⟩
     | _=>simp [MW]at m6
    | seq a1 a2 =>
     simp only[run]at h;cases c with
     | seq c1 c2 =>
      simp only[MW,Bool.and_eq_true]at m6;obtain ⟨a',m',x9,h1,h2⟩:=ih _ st n0 h _ (.code m6.1 (.code m6.2 qi)) m a n9 hf;exact ⟨a',m',x9,.head step_seq h1,h2⟩
     | _=>simp [MW]at m6
    | cond x a1 a2 =>
     simp only[run]at h;cases c with
     | cond xc c1 c2 =>
      simp only[MW,Bool.and_eq_true]at m6;have du:CV B S m (st.ev x) (a.eval xc):=by rw[AjE];exact hf.says xc x m6.1.1
      split at h
      ·rename_i hx
       rw[hx]at du;obtain ⟨a',m',x9,h1,h2⟩:=ih _ st n0 h _ (.code m6.1.2 qi) m a n9 hf;exact ⟨a',m',x9,.head (step_cond (tP du)) h1,h2⟩
      ·rename_i hx
       rw[hx]at du;obtain ⟨a',m',x9,h1,h2⟩:=ih _ st n0 h _ (.code m6.2 qi) m a n9 hf;exact ⟨a',m',x9,.head (step_cond (tP du)) h1,h2⟩
      ·cases h
     | _=>simp [MW]at m6
    | block id ac =>
     simp only[run]at h;cases c with
     | block id' c =>
      simp only[MW,Bool.and_eq_true,beq_iff_eq]at m6;obtain ⟨rfl,m6⟩:=m6;obtain ⟨a',m',x9,h1,h2⟩:=ih _ st n0 h _ (.code m6 (.k8 qi)) m a n9 hf;exact ⟨a',m',x9,.head step_block h1,h2⟩
     | _=>simp [MW]at m6
    | loop ac =>
     simp only[run]at h;cases c with
     | loop c =>
      simp only[MW]at m6;obtain ⟨a',m',x9,h1,h2⟩:=ih _ st n0 h _ (.code m6 (.lp m6 qi)) m a n9 hf;exact ⟨a',m',x9,.head step_loop h1,h2⟩
     | _=>simp [MW]at m6
    | exit id =>
     simp only[run]at h;cases c with
     | exit id' =>
      simp only[MW,beq_iff_eq]at m6;subst m6;split at h
      ·rename_i k' vh
       obtain ⟨t',e1,e2⟩:=xH qi vh;obtain ⟨a',m',x9,h1,h2⟩:=ih _ st n0 h _ e2 m a n9 hf;exact ⟨a',m',x9,.head (step_exit e1) h1,h2⟩
      ·cases h
     | _=>simp [MW]at m6
    | ret =>
     simp only[run,Option.some.injEq]at h;subst h;cases c with
     | ret=>exact ⟨a,m,.code .ret::t2,.one step_ret,n9,hf⟩
     | _=>simp [MW]at m6
    | ops l draw =>
     simp only[run]at h;split at h
     ·rename_i E7 Zc
      cases c with
      | region id ops Ax =>
       simp only[MW,Bool.and_eq_true,beq_iff_eq]at m6;obtain ⟨⟨rfl,Yp⟩,zu⟩:=m6;have hwp:(Code.region id ops Ax).wp P (λ e a' w'=>e = .normal /\ ∃ m',m'.w=w'/\m'.own=E7.own/\OP B S w0 m0 N (k7 E7.tm) m' a') a m.w:=by
        cases Ax with
        | true=>exact Ax5 hC Yp (by simpa using zu) Zc n9 hf λ m' a' h1 h2=>⟨rfl,m',rfl,h1,h2⟩
        | false =>
         refine wp_region ?_;rw[List.range_eq_range'];exact AoC hC Yp ops.size 0 st E7 m a (by omega) (by simpa using Zc) n9 hf λ m' a' h1 h2=>⟨rfl,m',rfl,h1,h2⟩
       obtain ⟨e,a1,w1,⟨rfl,m1,rfl,Yq,Ep⟩,ADZ⟩:=hwp b t2 cs;obtain ⟨a',m',x9,h1,h2,h3⟩:=ih _ E7 n0 h _ qi m1 a1 Yq Ep;exact ⟨a',m',x9,Steps.trans ADZ h1,h2,h3⟩
      | _=>simp [MW]at m6
     ·cases h
end
end Go.c9

namespace Go.c9
open Go.RowKit
section
variable {P:Program} {num:Nat->Nat} {L:Lib}
def ProgOK (P : Program) (num : Nat → Nat) (L : Lib) : Prop := (∀ f fa, L f = some fa → ∃ fn, P.funcs[num f]? = some fn ∧ okFn P num fn fa = true ∧ (fn.name == "runtime.NumGoroutine") = false) ∧ L.num = num
theorem Alf : ∀ (args:List AV) (k i:Nat),k7 (IQ k args) i=if k<=i then (match args[i-k]? with|some v=>v|none => .any) else .any
 | [],k,i=>by simp [IQ,k7]
 | v::r,k,i=>by
  simp only[IQ,k7];by_cases h:i=k
  ·subst h;simp
  ·rw[if_neg h,Alf r (k+1) i]
   by_cases h2:k<=i
   ·rw[if_pos h2,if_pos (by omega)]
    have:i-k=(i-(k+1))+1:=by omega
    rw[this];simp
   ·rw[if_neg h2,if_neg (by omega)]
section
variable {B:Nat} {S:Nat->Prop} {w0:World} {m0:M} {N:Nat}
def AcA (tmps:Array Value):ResultVar->Sem Value
 | .tmp t=>pure (tmps.getD t undef)
 | .cell x t=>do loadVar t (<-asAddr (tmps.getD x undef))
theorem AqW {m:M} {x v:AV} {u:Value} (h:ZH x=some v) (du:CV B S m x u):CA B S m v u:=by
 cases du with
 | any=>simp [ZH]at h
 | j5=>simp [ZH]at h
 | ca hc =>
  have:x=v:=by
   cases hc with
   | one hc=>cases hc with
    | rd hr=>cases hr<;>simpa [ZH] using h
    | _=>simpa [ZH] using h
   | fn=>simpa [ZH] using h
   | Ec=>simpa [ZH] using h
   | agg=>simpa [ZH] using h
  subst this;exact hc
theorem Agl {m:M} {a:Act} {st:St} (hf:OP B S w0 m0 N (k7 st.tm) m a) (n9:m.own=st.own) : ∀ {rv:List ResultVar} {ra:List aG} {vs:List AV},gN P rv ra=true->ra.mapM (NQ st)=some vs ->
  ∃ us:List Value,(rv.mapM (AcA a.tmps)).run P m.w = .ok us m.w/\vs.length=us.length /\ ∀ (j:Nat) (c:AV) (v:Value),vs[j]? = some c->us[j]? = some v->CA B S m c v
 | [],[],vs,_,h=>by
  simp at h;subst h;exact ⟨[],by simp,rfl,λ j c v hc=>by simp at hc⟩
 | .tmp t::r,.tmp t'::l,vs,m6,h=>by
  simp only[gN,Bool.and_eq_true,beq_iff_eq]at m6;obtain ⟨rfl,m6⟩:=m6;simp only[List.mapM_cons,Option.bind_eq_bind,Option.pure_def]at h;cases hv:NQ st (.tmp t) with
  | none=>simp [hv]at h
  | some v =>
   cases hr:l.mapM (NQ st) with
   | none=>simp [hv,hr]at h
   | some vr =>
    simp [hv,hr]at h;subst h;obtain ⟨us,h1,h2,h3⟩:=Agl hf n9 m6 hr;have du:=hf.tm t;have Cg:CA B S m v (a.tmps.getD t undef):=AqW hv du;refine ⟨a.tmps.getD t undef::us,?_,by simp [h2],λ j c u hc hu => ?_⟩
    ·simp only[List.mapM_cons,Sem.run_bind,AcA,Sem.run_pure,Result.andThen_ok,h1]
    ·cases j with
     | zero =>
      obtain rfl:v=c:=by simpa using hc
      obtain rfl:a.tmps.getD t undef=u:=Option.some.inj hu;exact Cg
     | succ j=>exact h3 j c u (by simpa using hc) (by simpa using hu)
 | .cell x t::r,.cell x' agg n::l,vs,m6,h=>by
  simp only[gN,Bool.and_eq_true,beq_iff_eq]at m6;obtain ⟨⟨⟨rfl,qp⟩,hn⟩,m6⟩:=m6;simp only[List.mapM_cons,Option.bind_eq_bind,Option.pure_def]at h;cases hv:NQ st (.cell x agg n) with
  | none=>simp [hv]at h
  | some v =>
   cases hr:l.mapM (NQ st) with
   | none=>simp [hv,hr]at h
   | some vr =>
    simp [hv,hr]at h;subst h;obtain ⟨us,h1,h2,h3⟩:=Agl hf n9 m6 hr;have du:=hf.tm x;simp only[NQ]at hv;split at hv
    ·rename_i s u i j hx
     rw[hx]at du;split at hv
     ·rename_i cs ua
      rw[<-n9]at ua;obtain ⟨ad,iv,ht,hb⟩:=Tr du;obtain ⟨b,g,arr,e,z9,hg,ig,ti,ag,mi⟩:=AmA hf.mem ua;obtain ⟨AVI,Ag⟩:=Acn hv ag;have hld:=Agt (P:=P) t agg n (AdD (by simpa using qp)) (by
       cases agg
       ·simpa using hn
       ·exact oN (by simpa using hn)) ad ig ti m.w (λ q u' hq=>by
       have o5:q<ig.length:=(zS hq).1;obtain ⟨Nc,ub⟩:=hg (by omega);obtain ⟨g',lq,rfl⟩:=hb b z9;obtain rfl:g=g':=by rw[Nc]at lq;simpa using lq
       rw[WC,AbC ub];exact mi q u' hq)
      have AEn:(AcA a.tmps (.cell x t)).run P m.w = .ok (if agg then .agg ig.toArray else ig.getD 0 undef) m.w:=by
       show (do loadVar t (<-asAddr (a.tmps.getD x undef)):Sem Value).run P m.w=_;rw[iv];simpa [asAddr,Instr.loadAt,Instr.sureAddr] using hld
      have Cg:CA B S m v (if agg then .agg ig.toArray else ig.getD 0 undef):=by
       unfold cP at hv;cases agg with
       | true =>
        simp only[if_true,Option.some.injEq]at hv;subst hv;exact .agg cs ig ag
       | false =>
        simp only[Bool.false_eq_true,if_false]at hv ⊢;split at hv
        ·rename_i c
         simp only[Option.some.injEq]at hv;subst hv;obtain ⟨u',ux,fi⟩:=wK ag (j:=0) (c:=c) rfl;simp only[List.getD,ux,Option.getD_some];exact .one fi
        ·cases hv
      refine ⟨(if agg then .agg ig.toArray else ig.getD 0 undef)::us,?_,by simp [h2],λ j' c u' hc hu => ?_⟩
      ·rw[List.mapM_cons,Sem.run_bind,AEn,Result.andThen_ok,Sem.run_bind,h1,Result.andThen_ok]
       rfl
      ·cases j' with
       | zero =>
        obtain rfl:v=c:=by simpa using hc
        obtain rfl:=Option.some.inj hu;exact Cg
       | succ j'=>exact h3 j' c u' (by simpa using hc) (by simpa using hu)
     ·cases hv
    ·cases hv
 | [],_::_,_,m6,_=>by simp [gN]at m6
 | .tmp _::_,[],_,m6,_=>by simp [gN]at m6
 | .cell _ _::_,[],_,m6,_=>by simp [gN]at m6
 | .tmp _::_,.cell _ _ _::_,_,m6,_=>by simp [gN]at m6
 | .cell _ _::_,.tmp _::_,_,m6,_=>by simp [gN]at m6
end
theorem Aio (hP:ProgOK P num L) {f:Nat} {fa:AFn} (hL:L f=some fa) (us:Array Value) (w:World):(callFunc (num f) us).run P w = .ok (.enter (num f) us) w:=by
 obtain ⟨fn,h1,h2,h3⟩:=hP.1 f fa hL;have hb:fn.body.isNone=false:=by
  simp only[okFn,Bool.and_eq_true]at h2;cases hbd:fn.body with
  | none=>rw[hbd]at h2;simp at h2
  | some c=>rfl
 unfold callFunc;simp only[Sem.run_bind,run_program,Result.andThen_ok,h1,h3,hb,Bool.false_eq_true,if_false,Sem.run_pure]
theorem Alh (hP:ProgOK P num L) {n:Nat} (hC:QY P num (JP L n)) {f:Nat} {vs:List AV} {own:C2} {r:AV} {q8:C2} (h:KP L (n+1) f vs own=some (r,q8)) (B:Nat) (S:Nat->Prop) (w0:World) (m:M) (us:List Value) (n9:m.own=own) (hm:GR B S w0 m) (hl:vs.length=us.length)
  (du : ∀ (j:Nat) (c:AV) (v:Value),vs[j]? = some c->us[j]? = some v->CV B S m c v) :
  Calls P (num f) us.toArray m.w λ e w' => ∃ u m',e = .returned u/\m'.w=w'/\m'.own=q8/\GR B S w0 m'/\J8 B S m m'/\CV B S m' r u:=by
 rw[Ue]at h;cases hL:L f with
 | none=>simp [hL]at h
 | some fa =>
  simp only[hL]at h;split at h
  ·rename_i Yr
   split at h
   ·rename_i st cp
    split at h
    ·rename_i rvs uo
     simp only[Option.some.injEq,Prod.mk.injEq]at h;obtain ⟨rfl,rfl⟩:=h;obtain ⟨fn,h1,h2,h3⟩:=hP.1 f fa hL;simp only[okFn,Bool.and_eq_true,beq_iff_eq,decide_eq_true_eq]at h2;obtain ⟨⟨⟨h4,h5⟩,h6⟩,h7⟩:=h2;split at h7
     ·rename_i c hc
      intro cs;have Na:Frame.enter P (num f) us.toArray .normal=({ (default:Frame) with fn:=num f,kind := .normal }:Frame).at { tmps:=us.toArray++Array.replicate (fn.ntmps-us.toArray.size) undef,defers:=[] } [.code c]:=by
       simp [Frame.enter,Frame.at,h1,hc]
      have di:us.length=fa.gp:=by rw[<-hl];exact Yr
      have hf0:OP B S w0 m fn.ntmps (k7 (IQ 0 vs)) m { tmps:=us.toArray++Array.replicate (fn.ntmps-us.toArray.size) undef,defers:=[] }:=by
       refine ⟨hm,J8.refl m,λ i => ?_,by simp;omega,rfl⟩;rw[Alf];simp only[Nat.zero_le,if_true,Nat.sub_zero];cases Zh:vs[i]? with
       | none=>exact .any _
       | some v =>
        have hi:i<us.length:=by rw[<-hl];exact (zS Zh).1
        have z9:(us.toArray++Array.replicate (fn.ntmps-us.toArray.size) undef).getD i undef=us[i]:=by
         rw[Array.getD_eq_getD_getElem?,Array.getElem?_append_left (by simpa using hi)];simp [hi]
        simp only[z9];exact du i v us[i] Zh (zE hi)
      obtain ⟨a',m',x9,Oo,uc,xg⟩:=AwR (m0:=m) hC { (default:Frame) with fn:=num f,kind := .normal } cs n [.code fa.body] ⟨IQ 0 vs,own⟩ st cp [.code c] (.code h7 .nil) m _ n9 hf0;obtain ⟨Hm,Ov,Dv,hu3⟩:=Agl (P:=P) xg uc h6 uo;have Ix:(results fn a'.tmps).run P m'.w = .ok (if h:Hm.length=1 then Hm[0] else .tuple Hm.toArray) m'.w:=by
       have hr:results fn a'.tmps=(do let vs <-fn.results.mapM (AcA a'.tmps);pure (if h:vs.size=1 then vs[0] else .tuple vs)):=rfl;rw[hr,Sem.run_bind,Array.mapM_eq_mapM_toList];simp [Ov]
      refine ⟨.returned (if h:Hm.length=1 then Hm[0] else .tuple Hm.toArray),m'.w,_,⟨_,m',rfl,rfl,uc,xg.mem,xg.ext,?_⟩,by rw[Na];exact Oo,rfl,rfl,xg.defers,rfl,fn,h1,Ix⟩;unfold X3;split
      ·rename_i v
       have Bv:Hm.length=1:=by rw[<-Dv];rfl
       rw[dif_pos Bv];exact .ca (hu3 0 v Hm[0] rfl (zE (by omega)))
      ·rename_i u5
       have Bv : ¬ Hm.length=1:=λ e=>by
        rw[<-Dv]at e;cases rvs with
        | nil=>simp at e
        | cons q qs=>cases qs with
         | nil=>exact u5 q rfl
         | cons=>simp at e
       rw[dif_neg Bv];exact .j5 rvs Hm Dv hu3
     ·cases h7
    ·cases h
   ·cases h
  ·cases h
theorem AvB (S:Nat->Prop) (w:World):GR w.heap.size S w ⟨λ_ _=>none,C2.emp,w⟩ :=
 ⟨Below.refl _ _,Nat.le_refl _,λ_ _ _=>rfl,λ s t b h=>by simp [C2.get,C2.emp]at h,λ s t s' t' b b' g h=>by simp [C2.get,C2.emp]at h⟩
theorem Aju {n f:Nat} {vs:List AV} {own:C2} {r:AV × C2} (h:KP L n f vs own=some r) : ∃ fa,L f=some fa:=by
 cases n with
 | zero=>simp [KP]at h
 | succ n =>
  rw[Ue]at h;cases hL:L f with
  | none=>simp [hL]at h
  | some fa=>exact ⟨fa,rfl⟩
theorem Af5 {n f:Nat} {vs:List AV} {r:AV} (h:Y4 (λ vs=>KP L n f vs C2.emp) vs=some r) : ∃ r0 o,KP L n f vs C2.emp=some (r0,o)/\sL o false r0=some r/\EA r:=by
 unfold Y4 at h;cases he:KP L n f vs C2.emp with
 | none=>simp [he]at h
 | some x =>
  obtain ⟨r0,o⟩:=x;simp only[he]at h;split at h
  ·rename_i r' hr
   split at h
   ·rename_i hc
    simp only[Option.some.injEq]at h;subst h;exact ⟨r0,o,rfl,hr,hc⟩
   ·cases h
  ·cases h
theorem AeJ {n f:Nat} {vs:List AV} {r:AV} (h:V3 L n f vs=some r) : ∃ ig,∃ x,KP L n f ig C2.emp=some x:=by
 unfold V3 cU at h;split at h
 ·split at h
  ·rename_i r1 r2 h1 h2
   obtain ⟨r0,o,h3,_⟩:=Af5 h1;exact ⟨_,_,h3⟩
  ·cases h
 ·obtain ⟨r0,o,h3,_⟩:=Af5 h
  exact ⟨_,_,h3⟩
theorem Af6 (hP:ProgOK P num L) {n:Nat} (ih:QY P num (JP L n)) {f:Nat} {vs:List AV} {r:AV} (h:Y4 (λ vs=>KP L (n+1) f vs C2.emp) vs=some r) (S:Nat->Prop) (w:World) (us:List Value) (hl:vs.length=us.length)
  (Cg : ∀ (j:Nat) (c:AV) (v:Value),vs[j]? = some c->us[j]? = some v->CA w.heap.size S ⟨λ_ _=>none,C2.emp,w⟩ c v) :
  Calls P (num f) us.toArray w λ e w' => ∃ u,e = .returned u/\Below w.heap.size w w'/\CV w.heap.size S ⟨λ_ _=>none,C2.emp,w'⟩ r u/\EA r:=by
 obtain ⟨r0,o,h1,h2,h3⟩:=Af5 (L:=L) h;refine Calls.mono (Alh hP ih h1 w.heap.size S w ⟨λ_ _=>none,C2.emp,w⟩ us rfl (AvB S w) hl λ j c v hc hv => .ca (Cg j c v hc hv)) λ e w' ⟨u,m',he,hw,n9,vj,_,du⟩ => ?_
 subst hw;refine ⟨u,he,vj.below,?_,h3⟩;refine DV.cv (m:=⟨λ_ _=>none,C2.emp,m'.w⟩) (Axf vj false (safe w.heap.size S ⟨λ_ _=>none,C2.emp,m'.w⟩) (λ l b hb hs => ?_) (λ s t g pe hg => ?_) (by rw[n9];exact h2) du)
 ·rcases hs with h|⟨h,_⟩|h
  ·exact .inl h
  ·exact .inr (.inl ⟨h,λ s t pe=>by simp [C2.get,C2.emp]at pe⟩)
  ·exact .inr (.inr h)
 ·exact .inr (.inl ⟨(vj.ge pe hg).1,λ s t pe=>by simp [C2.get,C2.emp]at pe⟩)
theorem AqY (hP:ProgOK P num L) : ∀ n,QY P num (JP L n):=by
 intro n;induction n with
 | zero =>
  exact ⟨λ f vs r h=>by obtain ⟨ig,x,h1⟩:=AeJ (L:=L) (n:=0) (f:=f) (vs:=vs) (r:=r) h;simp [KP]at h1,λ f vs own r h=>by change KP L 0 f vs own=some r at h;simp [KP]at h,
   λ f vs r h=>by obtain ⟨ig,x,h1⟩:=AeJ (L:=L) (n:=0) (f:=f) (vs:=vs) (r:=r) h;simp [KP]at h1,λ f vs own r q8 h=>by change KP L 0 f vs own=_ at h;simp [KP]at h,hP.2⟩
 | succ n ih =>
  refine ⟨λ f vs r h us w => ?_,λ f vs own r h us w => ?_,λ f vs r h S w us hl Cg => ?_,λ f vs own r q8 h B S w0 m us n9 hm hl du=>Alh hP ih h B S w0 m us n9 hm hl du,hP.2⟩
  ·obtain ⟨ig,x,h1⟩:=AeJ (L:=L) h
   obtain ⟨fa,hL⟩:=Aju h1;exact Aio hP hL us w
  ·obtain ⟨fa,hL⟩:=Aju (L:=L) h
   exact Aio hP hL us w
  ·have h:cU (L.Aq f) (λ vs=>KP L (n+1) f vs C2.emp) vs=some r:=h
   unfold cU at h;split at h
   ·rename_i q ig _ _
    split at h
    ·rename_i r1 r2 h1 h2
     split at h
     ·rename_i e
      subst e;obtain rfl:=Option.some.inj h;cases us with
      | nil=>simp at hl
      | cons u us =>
       have h0:=Cg 0 _ u rfl rfl;have hu : ∃ a cap,u = .slice a 0 cap:=by
        cases h0 with
        | one h0=>cases h0 with
         | rd h0=>cases h0 with
          | rm l a cap=>exact ⟨a,cap,rfl⟩
          | sl l es b o b7 cap u u5=>exact absurd rfl u5
       obtain ⟨a,cap,rfl⟩:=hu;have key : ∀ b,a.isNone=b -> ∀ (j:Nat) (c:AV) (v:Value),(AV.gx (.bool b)::ig)[j]? = some c->(Value.slice a 0 cap::us)[j]? = some v->CA w.heap.size S ⟨λ_ _=>none,C2.emp,w⟩ c v:=λ b hb j c v hc hv=>by
        cases j with
        | zero =>
         obtain rfl:=Option.some.inj hc;obtain rfl:=Option.some.inj hv;exact .one (.rd (.emp b a cap hb))
        | succ j=>exact Cg (j+1) c v hc hv
       cases hb:a.isNone with
       | true=>exact Af6 hP ih h1 S w _ (by simpa using hl) (key true hb)
       | false=>exact Af6 hP ih h2 S w _ (by simpa using hl) (key false hb)
     ·cases h
    ·cases h
   ·exact Af6 hP ih h S w us hl Cg
end
end Go.c9
namespace Go.c9
abbrev OkF (P : Program) (num : Nat → Nat) (p : Nat × AFn) : Prop := ∃ fn, P.funcs[num p.1]? = some fn ∧ okFn P num fn p.2 = true ∧ (fn.name == "runtime.NumGoroutine") = false
theorem Awg {P:Program} {num:Nat->Nat} (l:List (Nat × AFn)) (h : ∀ p∈l,OkF P num p):ProgOK P num ⟨λ f=>l.lookup f,num⟩:=by
 refine ⟨?_,rfl⟩;intro f fa hf;have hm:(f,fa)∈l:=by
  clear h;change l.lookup f=some fa at hf;induction l with
  | nil=>simp at hf
  | cons x r ih =>
   obtain ⟨k,v⟩:=x;rw[List.lookup_cons]at hf;cases hk:(f == k) with
   | true =>
    rw[hk]at hf;have:f=k:=by simpa using hk
    subst this;simp at hf;simp [hf]
   | false =>
    rw[hk]at hf;exact List.mem_cons_of_mem _ (ih hf)
 exact h (f,fa) hm
end Go.c9

namespace Go.c9
section
variable {L:Lib}
def Cl.le (C C':Cl):Prop:=(∀ f vs r,C.pure f vs=some r->C'.pure f vs=some r)/\(∀ f vs o r,C.pt f vs o=some r->C'.pt f vs o=some r)/\C.num=C'.num
theorem Aib {x y:Option (AV × C2)} {r:Nat × List (List AV)} (h : ∀ q,x=some q->y=some q) (hr:nP x=some r):nP y=some r:=by
 cases x with
 | none=>simp [nP]at hr
 | some q=>rw[h q rfl];exact hr
theorem AsF {C C':Cl} (h:C.le C') {c4:List Nat} {ρ:C4->AV} {own:C2} {op:K8} {E:H5} (he:k6 C c4 ρ own op=some E):k6 C' c4 ρ own op=some E:=by
 cases op with
 | call f xs =>
  simp only[k6]at he ⊢;split at he
  ·rename_i vs mi
   simp only[Option.map_eq_some_iff]at he ⊢;obtain ⟨r,hr,rfl⟩:=he;exact ⟨r,h.1 f vs r hr,rfl⟩
  ·cases he
 | j6 f xs =>
  simp only[k6,Option.map_eq_some_iff]at he ⊢;obtain ⟨r,hr,rfl⟩:=he;exact ⟨r,h.2.1 f _ own r hr,rfl⟩
 | zh p f xs=>simp only[k6]at he ⊢;rw[<-h.2.2];exact he
 | iy s f xs =>
  simp only[k6,Option.map_eq_some_iff]at he ⊢;obtain ⟨p,hp,rfl⟩:=he;exact ⟨p,AbB.2 λ o ho=>h.2.1 f _ o _ (AbB.1 hp o ho),rfl⟩
 | ay s f xs =>
  simp only[k6]at he ⊢;split at he
  ·rename_i vs mi
   simp only[Option.map_eq_some_iff]at he ⊢;obtain ⟨r,hr,rfl⟩:=he;exact ⟨r,Aib (h.2.1 f vs C2.emp) hr,rfl⟩
  ·cases he
 | v7 f xs =>
  simp only[k6]at he ⊢;split at he
  ·rename_i hq
   rw[if_pos hq];split at he
   ·rename_i r hr
    rw[h.1 _ _ r hr];exact he
   ·cases he
  ·cases he
 | w5 x xs =>
  simp only[k6]at he ⊢;rw[<-h.2.2];split at he
  ·split at he
   ·rename_i hg
    rw[if_pos hg];split at he
    ·split at he
     ·rename_i vs mi
      simp only[Option.map_eq_some_iff]at he ⊢;obtain ⟨r,hr,rfl⟩:=he;exact ⟨r,h.1 _ vs r hr,rfl⟩
     ·cases he
    ·simp only[Option.map_eq_some_iff]at he ⊢
     obtain ⟨r,hr,rfl⟩:=he;exact ⟨r,h.2.1 _ _ own r hr,rfl⟩
    ·split at he
     ·rename_i vs mi
      simp only[Option.map_eq_some_iff]at he ⊢;obtain ⟨r,hr,rfl⟩:=he;exact ⟨r,h.1 _ vs r hr,rfl⟩
     ·cases he
   ·cases he
  ·cases he
 | _=>exact he
theorem Axo {C C':Cl} (h:C.le C') {o:AI} {st n0:St} (he:JE C o st=some n0):JE C' o st=some n0:=by
 unfold JE at he ⊢;split at he
 ·simp only[Option.map_eq_some_iff]at he ⊢
  obtain ⟨E,h1,h2⟩:=he;exact ⟨E,AsF h h1,h2⟩
 ·exact he
 ·exact he
theorem oU {C C':Cl} (h:C.le C') : ∀ {l:List AI} {st n0:St},JZ C l st=some n0->JZ C' l st=some n0
 | [],st,n0,he=>he
 | o::r,st,n0,he=>by
  simp only[JZ]at he ⊢;cases hs:JE C o st with
  | none=>simp [hs]at he
  | some E7 =>
   rw[Axo h hs];simp only[hs]at he;exact oU h he
theorem oM {C C':Cl} (h:C.le C') : ∀ {n n':Nat} {k:List It} {st n0:St},n<=n'->run C n k st=some n0->run C' n' k st=some n0:=by
 intro n;induction n with
 | zero=>intro n' k st n0 _ hr;simp [run]at hr
 | succ n ih =>
  intro n' k st n0 hn hr;obtain ⟨q,rfl⟩ : ∃ q,n'=q+1:=⟨n'-1,by omega⟩;have hq:n<=q:=by omega
  cases k with
  | nil=>exact hr
  | cons it k =>
   cases it with
   | k8 id=>simp only[run]at hr ⊢;exact ih hq hr
   | yd ts ss=>simp only[run]at hr ⊢;exact ih hq hr
   | lp c=>simp only[run]at hr ⊢;exact ih hq hr
   | code c =>
    cases c with
    | skip=>simp only[run]at hr ⊢;exact ih hq hr
    | ops l d =>
     simp only[run]at hr ⊢;cases hs:JZ C l st with
     | none=>simp [hs]at hr
     | some E7 =>
      rw[oU h hs];simp only[hs]at hr;exact ih hq hr
    | dr c ts ss=>simp only[run]at hr ⊢;exact ih hq hr
    | scope c=>simp only[run]at hr ⊢;exact ih hq hr
    | seq a b=>simp only[run]at hr ⊢;exact ih hq hr
    | cond x a b =>
     simp only[run]at hr ⊢;split at hr
     ·exact ih hq hr
     ·exact ih hq hr
     ·cases hr
    | block id c=>simp only[run]at hr ⊢;exact ih hq hr
    | loop c=>simp only[run]at hr ⊢;exact ih hq hr
    | exit id =>
     simp only[run]at hr ⊢;split at hr
     ·exact ih hq hr
     ·cases hr
    | ret=>exact hr
theorem Sy {I I':List AV->Option (AV × C2)} (hI : ∀ vs r,I vs=some r->I' vs=some r) {vs:List AV} {r:AV} (h:Y4 I vs=some r):Y4 I' vs=some r:=by
 unfold Y4 at h ⊢;cases he:I vs with
 | none=>simp [he]at h
 | some x=>rw[hI vs _ he];simpa [he] using h
theorem Awi {b:Bool} {I I':List AV->Option (AV × C2)} (hI : ∀ vs r,I vs=some r->I' vs=some r) {vs:List AV} {r:AV} (h:cU b I vs=some r):cU b I' vs=some r:=by
 unfold cU at h ⊢;split at h
 ·split at h
  ·rename_i r1 r2 h1 h2
   rw[Sy hI h1,Sy hI h2];exact h
  ·cases h
 ·exact Sy hI h
theorem AjP : ∀ (n:Nat),(JP L n).le (JP L (n+1)):=by
 have pt : ∀ n,(∀ f vs o r,KP L n f vs o=some r->KP L (n+1) f vs o=some r) -> ∀ f vs r,V3 L n f vs=some r->V3 L (n+1) f vs=some r:=by
  intro n hI f vs r h;exact Awi (λ vs r h=>hI f vs _ r h) h
 intro n;induction n with
 | zero =>
  have : ∀ f vs o r,KP L 0 f vs o=some r->KP L 1 f vs o=some r:=λ f vs o r h=>by simp [KP]at h
  exact ⟨pt 0 this,this,rfl⟩
 | succ n ih =>
  have : ∀ f vs o r,KP L (n+1) f vs o=some r->KP L (n+2) f vs o=some r:=λ f vs o r h=>by
   rw[Ue]at h ⊢;cases hL:L f with
   | none=>simp [hL]at h
   | some fn =>
    simp only[hL]at h ⊢;split at h
    ·rename_i hp
     rw[if_pos hp];cases hr:run (JP L n) n [.code fn.body] ⟨IQ 0 vs,o⟩ with
     | none=>simp [hr]at h
     | some st =>
      rw[oM ih (Nat.le_succ n) hr];simpa [hr] using h
    ·cases h
  exact ⟨pt (n+1) this,this,rfl⟩
theorem OS {n n':Nat} (h:n<=n'):(JP L n).le (JP L n'):=by
 induction h with
 | refl=>exact ⟨λ_ _ _ h=>h,λ_ _ _ _ h=>h,rfl⟩
 | step _ ih=>exact ⟨λ f vs r h=>(AjP _).1 f vs r (ih.1 f vs r h),λ f vs o r h=>(AjP _).2.1 f vs o r (ih.2.1 f vs o r h),rfl⟩
def Ev (L:Lib) (f:Nat) (vs:List AV) (r:AV):Prop := ∃ n,V3 L n f vs=some r
def O9 (L:Lib) (f:Nat) (vs:List AV) (r:AV):Prop := ∃ n,Y4 (λ vs=>KP L n f vs C2.emp) vs=some r
def P9 (L:Lib) (f:Nat) (vs:List AV) (o:C2) (r:AV) (o':C2):Prop := ∃ n,KP L n f vs o=some (r,o')
def aH (L:Lib) (f:Nat) (vs:List AV) (z:Nat) (es:List (List AV)):Prop := ∃ n,nP (KP L n f vs C2.emp)=some (z,es)
theorem Ev.Lx {f:Nat} {vs:List AV} {r r':AV} (h:Ev L f vs r) (h':Ev L f vs r'):r=r':=by
 obtain ⟨n,hn⟩:=h;obtain ⟨n',Df⟩:=h';have h1:=(OS (L:=L) (Nat.le_max_left n n')).1 f vs r hn;have h2:=(OS (L:=L) (Nat.le_max_right n n')).1 f vs r' Df;rw[h1]at h2;exact Option.some.inj h2
theorem P9.Lx {f:Nat} {vs:List AV} {o:C2} {r r':AV} {o1 o2:C2} (h:P9 L f vs o r o1) (h':P9 L f vs o r' o2):r=r'/\o1=o2:=by
 obtain ⟨n,hn⟩:=h;obtain ⟨n',Df⟩:=h';have h1:=(OS (L:=L) (Nat.le_max_left n n')).2.1 f vs o _ hn;have h2:=(OS (L:=L) (Nat.le_max_right n n')).2.1 f vs o _ Df;rw[h1]at h2;simpa using h2
def AK (L:Lib) (k:List It) (st:St) (Q:St->Prop):Prop := ∃ n c n0,run (JP L c) n k st=some n0/\Q n0
def AO (L:Lib) (l:List AI) (k:List It) (st:St) (Q:St->Prop):Prop := ∃ n c E7 n0,JZ (JP L c) l st=some E7/\run (JP L c) n k E7=some n0/\Q n0
variable {k:List It} {st:St} {Q:St->Prop}
theorem bT {it:It} {k':List It} {E7:St} (h : ∀ (C:Cl) (n:Nat),run C (n+1) (it::k) st=run C n k' E7):AK L (it::k) st Q↔AK L k' E7 Q:=by
 constructor
 ·rintro ⟨n,c,n0,hr,hq⟩
  cases n with
  | zero=>simp [run]at hr
  | succ n=>exact ⟨n,c,n0,by rw[<-h];exact hr,hq⟩
 ·rintro ⟨n,c,n0,hr,hq⟩
  exact ⟨n+1,c,n0,by rw[h];exact hr,hq⟩
theorem AoX:AK L [] st Q↔Q st:=by
 constructor
 ·rintro ⟨n,c,n0,hr,hq⟩
  cases n with
  | zero=>simp [run]at hr
  | succ n=>simp only[run,Option.some.injEq]at hr;exact hr ▸ hq
 ·exact λ h=>⟨1,0,st,rfl,h⟩
theorem AoP {id:Nat}:AK L (.k8 id::k) st Q↔AK L k st Q:=bT λ_ _=>rfl
theorem AoT {ts ss:List Nat}:AK L (.yd ts ss::k) st Q↔AK L k ⟨gd st.tm ts,st.own.drop ss⟩ Q:=bT λ_ _=>rfl
theorem Ahy {c:FX}:AK L (.lp c::k) st Q↔AK L (.code c :: .lp c::k) st Q:=bT λ_ _=>rfl
theorem Ao2:AK L (.code .skip::k) st Q↔AK L k st Q:=bT λ_ _=>rfl
theorem AoS {c:FX} {ts ss:List Nat}:AK L (.code (.dr c ts ss)::k) st Q↔AK L (.code c :: .yd ts ss::k) st Q:=bT λ_ _=>rfl
theorem Ao0 {c:FX}:AK L (.code (.scope c)::k) st Q↔AK L (.code c::k) st Q:=bT λ_ _=>rfl
theorem Ao1 {a b:FX}:AK L (.code (.seq a b)::k) st Q↔AK L (.code a :: .code b::k) st Q:=bT λ_ _=>rfl
theorem AoQ {id:Nat} {c:FX}:AK L (.code (.block id c)::k) st Q↔AK L (.code c :: .k8 id::k) st Q:=bT λ_ _=>rfl
theorem AoV {c:FX}:AK L (.code (.loop c)::k) st Q↔AK L (.code c :: .lp c::k) st Q:=bT λ_ _=>rfl
theorem AoU {id:Nat} {k':List It} (h:OH id k=some k'):AK L (.code (.exit id)::k) st Q↔AK L k' st Q:=bT λ C n=>by simp [run,h]
theorem AoZ:AK L (.code .ret::k) st Q↔Q st:=by
 constructor
 ·rintro ⟨n,c,n0,hr,hq⟩
  cases n with
  | zero=>simp [run]at hr
  | succ n=>simp only[run,Option.some.injEq]at hr;exact hr ▸ hq
 ·exact λ h=>⟨1,0,st,rfl,h⟩
theorem AoR {x:C4} {a b:FX} {t:Bool} (h:st.ev x = .bool t):AK L (.code (.cond x a b)::k) st Q↔if t=true then AK L (.code a::k) st Q else AK L (.code b::k) st Q:=by
 cases t
 ·simpa using bT (k' := .code b::k) (E7:=st) λ C n=>by simp [run,h]
 ·simpa using bT (k' := .code a::k) (E7:=st) λ C n=>by simp [run,h]
theorem AoY {l:List AI} {d:Bool}:AK L (.code (.ops l d)::k) st Q↔AO L l k st Q:=by
 constructor
 ·rintro ⟨n,c,n0,hr,hq⟩
  cases n with
  | zero=>simp [run]at hr
  | succ n =>
   simp only[run]at hr;split at hr
   ·rename_i E7 hs
    exact ⟨n,c,E7,n0,hs,hr,hq⟩
   ·cases hr
 ·rintro ⟨n,c,E7,n0,hs,hr,hq⟩
  exact ⟨n+1,c,n0,by simp [run,hs,hr],hq⟩
theorem Apc:AO L [] k st Q↔AK L k st Q:=by
 constructor
 ·rintro ⟨n,c,E7,n0,hs,hr,hq⟩
  simp only[JZ,Option.some.injEq]at hs;exact ⟨n,c,n0,hs ▸ hr,hq⟩
 ·rintro ⟨n,c,n0,hr,hq⟩
  exact ⟨n,c,st,n0,rfl,hr,hq⟩
theorem Apf {o:AI} {l:List AI} {E7:St} (h : ∀ C,JE C o st=some E7):AO L (o::l) k st Q↔AO L l k E7 Q:=by
 constructor
 ·rintro ⟨n,c,GD,n0,hs,hr,hq⟩
  simp only[JZ,h]at hs;exact ⟨n,c,GD,n0,hs,hr,hq⟩
 ·rintro ⟨n,c,GD,n0,hs,hr,hq⟩
  exact ⟨n,c,GD,n0,by simpa only[JZ,h] using hs,hr,hq⟩
theorem Apd {d:Option Nat} {op:K8} {g:Option (Nat × Bool)} {c4:List Nat} {l:List AI} (h:OL st g=some false):AO L (⟨d,op,g,c4⟩::l) k st Q↔AO L l k (st.dst d (.j5 [])) Q :=
 Apf λ C=>by simp [JE,h]
theorem wJ (c:Nat):(JP L c).num=L.num:=rfl
theorem Ape {d:Option Nat} {op:K8} {g:Option (Nat × Bool)} {c4:List Nat} {l:List AI} {E:H5} (h:OL st g=some true) (he : ∀ c,k6 (JP L c) c4 st.ev st.own op=some E):AO L (⟨d,op,g,c4⟩::l) k st Q↔AO L l k (st.app d E) Q:=by
 have h : ∀ c,JE (JP L c) ⟨d,op,g,c4⟩ st=some (st.app d E):=λ c=>by simp [JE,h,he]
 constructor
 ·rintro ⟨n,c,GD,n0,hs,hr,hq⟩
  simp only[JZ,h]at hs;exact ⟨n,c,GD,n0,hs,hr,hq⟩
 ·rintro ⟨n,c,GD,n0,hs,hr,hq⟩
  exact ⟨n,c,GD,n0,by simpa only[JZ,h] using hs,hr,hq⟩
theorem Ao3 {d:Option Nat} {f:Nat} {xs:List C4} {g:Option (Nat × Bool)} {c4:List Nat} {l:List AI} {vs:List AV} {r:AV} (h:OL st g=some true) (hv:(xs.map st.ev).mapM (JD (st.own.w6 c4) true)=some vs) (hr:Ev L f vs r) :
  AO L (⟨d,.call f xs,g,c4⟩::l) k st Q↔AO L l k (st.dst d r) Q:=by
 have o4 : ∀ c r',V3 L c f vs=some r'->JE (JP L c) ⟨d,.call f xs,g,c4⟩ st=some (st.dst d r'):=λ c r' hc=>by
  have cz:(JP L c).pure f vs=some r':=hc;simp [JE,h,k6,hv,cz,St.app]
 constructor
 ·rintro ⟨n,c,GD,n0,hs,ni,hq⟩
  simp only[JZ]at hs;cases hI:JE (JP L c) ⟨d,.call f xs,g,c4⟩ st with
  | none=>simp [hI]at hs
  | some E7 =>
   simp only[hI]at hs;cases hp:V3 L c f vs with
   | none =>
    have cz:(JP L c).pure f vs=none:=hp;simp [JE,h,k6,hv,cz]at hI
   | some r' =>
    obtain rfl:r'=r:=Ev.Lx ⟨c,hp⟩ hr;rw[o4 c r' hp]at hI;obtain rfl:=Option.some.inj hI;exact ⟨n,c,GD,n0,hs,ni,hq⟩
 ·rintro ⟨n,c,GD,n0,hs,ni,hq⟩
  obtain ⟨c',cz⟩:=hr;have l1:=OS (L:=L) (Nat.le_max_left c c');have l2:=OS (L:=L) (Nat.le_max_right c c');refine ⟨n,max c c',GD,n0,?_,oM l1 (Nat.le_refl n) ni,hq⟩;simp only[JZ];rw[o4 (max c c') r (l2.1 f vs r cz)];exact oU l1 hs
theorem Ao6 {d:Option Nat} {f:Nat} {x:C4} {xs:List C4} {g:Option (Nat × Bool)} {c4:List Nat} {l:List AI} {vs:List AV} {r:AV} (h:OL st g=some true) (hx:st.ev x = .fn true f (L.num f) []) (hv:(xs.map st.ev).mapM (JD st.own true)=some vs) (hr:Ev L f vs r) :
  AO L (⟨d,.w5 x xs,g,c4⟩::l) k st Q↔AO L l k (st.dst d r) Q:=by
 have o4 : ∀ c r',V3 L c f vs=some r'->JE (JP L c) ⟨d,.w5 x xs,g,c4⟩ st=some (st.dst d r'):=λ c r' hc=>by
  have cz:(JP L c).pure f vs=some r':=hc;simp [JE,h,k6,hx,wJ,hv,cz,St.app]
 constructor
 ·rintro ⟨n,c,GD,n0,hs,ni,hq⟩
  simp only[JZ]at hs;cases hI:JE (JP L c) ⟨d,.w5 x xs,g,c4⟩ st with
  | none=>simp [hI]at hs
  | some E7 =>
   simp only[hI]at hs;cases hp:V3 L c f vs with
   | none =>
    have cz:(JP L c).pure f vs=none:=hp;simp [JE,h,k6,hx,wJ,hv,cz]at hI
   | some r' =>
    obtain rfl:r'=r:=Ev.Lx ⟨c,hp⟩ hr;rw[o4 c r' hp]at hI;obtain rfl:=Option.some.inj hI;exact ⟨n,c,GD,n0,hs,ni,hq⟩
 ·rintro ⟨n,c,GD,n0,hs,ni,hq⟩
  obtain ⟨c',cz⟩:=hr;have l1:=OS (L:=L) (Nat.le_max_left c c');have l2:=OS (L:=L) (Nat.le_max_right c c');refine ⟨n,max c c',GD,n0,?_,oM l1 (Nat.le_refl n) ni,hq⟩;simp only[JZ];rw[o4 (max c c') r (l2.1 f vs r cz)];exact oU l1 hs
theorem Ao4 {d:Option Nat} {f:Nat} {w:AV} {cs:List AV} {x:C4} {xs:List C4} {g:Option (Nat × Bool)} {c4:List Nat} {l:List AI} {vs:List AV} {r:AV} (h:OL st g=some true) (hx:st.ev x = .fn true f (L.num f) (w::cs)) (hv:(AV.agg (w::cs)::xs.map st.ev).mapM (JD st.own true)=some vs) (hr:Ev L f vs r) :
  AO L (⟨d,.w5 x xs,g,c4⟩::l) k st Q↔AO L l k (st.dst d r) Q:=by
 have o4 : ∀ c r',V3 L c f vs=some r'->JE (JP L c) ⟨d,.w5 x xs,g,c4⟩ st=some (st.dst d r'):=λ c r' hc=>by
  have cz:(JP L c).pure f vs=some r':=hc;simp [JE,h,k6,hx,wJ,hv,cz,St.app]
 constructor
 ·rintro ⟨n,c,GD,n0,hs,ni,hq⟩
  simp only[JZ]at hs;cases hI:JE (JP L c) ⟨d,.w5 x xs,g,c4⟩ st with
  | none=>simp [hI]at hs
  | some E7 =>
   simp only[hI]at hs;cases hp:V3 L c f vs with
   | none =>
    have cz:(JP L c).pure f vs=none:=hp;simp [JE,h,k6,hx,wJ,hv,cz]at hI
   | some r' =>
    obtain rfl:r'=r:=Ev.Lx ⟨c,hp⟩ hr;rw[o4 c r' hp]at hI;obtain rfl:=Option.some.inj hI;exact ⟨n,c,GD,n0,hs,ni,hq⟩
 ·rintro ⟨n,c,GD,n0,hs,ni,hq⟩
  obtain ⟨c',cz⟩:=hr;have l1:=OS (L:=L) (Nat.le_max_left c c');have l2:=OS (L:=L) (Nat.le_max_right c c');refine ⟨n,max c c',GD,n0,?_,oM l1 (Nat.le_refl n) ni,hq⟩;simp only[JZ];rw[o4 (max c c') r (l2.1 f vs r cz)];exact oU l1 hs
theorem Ao7 {d:Option Nat} {f:Nat} {xs:List C4} {g:Option (Nat × Bool)} {c4:List Nat} {l:List AI} {r:AV} (h:OL st g=some true) (hq:(xs.map st.ev).all dq=true) (hr:Ev L f ((xs.map st.ev).map Hk) r) (qe:YD r\/sW r) :
  AO L (⟨d,.v7 f xs,g,c4⟩::l) k st Q↔AO L l k (st.dst d (fE r)) Q:=by
 have o4 : ∀ c,V3 L c f ((xs.map st.ev).map Hk)=some r->JE (JP L c) ⟨d,.v7 f xs,g,c4⟩ st=some (st.dst d (fE r)):=λ c hc=>by
  have cz:(JP L c).pure f ((xs.map st.ev).map Hk)=some r:=hc;simp only[JE,h,k6];rw[if_pos hq,cz];simp only[if_pos qe,Option.map_some,St.app]
 constructor
 ·rintro ⟨n,c,GD,n0,hs,ni,Qh⟩
  simp only[JZ]at hs;cases hp:V3 L c f ((xs.map st.ev).map Hk) with
  | none =>
   have cz:(JP L c).pure f ((xs.map st.ev).map Hk)=none:=hp;simp only[JE,h,k6]at hs;rw[if_pos hq,cz]at hs;simp at hs
  | some r' =>
   obtain rfl:r'=r:=Ev.Lx ⟨c,hp⟩ hr;rw[o4 c hp]at hs;exact ⟨n,c,GD,n0,hs,ni,Qh⟩
 ·rintro ⟨n,c,GD,n0,hs,ni,Qh⟩
  obtain ⟨c',cz⟩:=hr;have l1:=OS (L:=L) (Nat.le_max_left c c');have l2:=OS (L:=L) (Nat.le_max_right c c');refine ⟨n,max c c',GD,n0,?_,oM l1 (Nat.le_refl n) ni,Qh⟩;simp only[JZ];rw[o4 (max c c') (l2.1 f _ r cz)];exact oU l1 hs
theorem Ao8 {d:Option Nat} {s f:Nat} {xs:List C4} {g:Option (Nat × Bool)} {c4:List Nat} {l:List AI} {vs:List AV} {z:Nat} {es:List (List AV)} (h:OL st g=some true) (hv:(xs.map st.ev).mapM (oT (st.own.w6 c4) true)=some vs) (hr:aH L f vs z es)
  (ha:AO L l k (st.app d (.new s ⟨z,es⟩ (λ t => .row s t z 0 es.length))) Q):AO L (⟨d,.ay s f xs,g,c4⟩::l) k st Q:=by
 obtain ⟨n,c,GD,n0,hs,ni,hq⟩:=ha;obtain ⟨c',cz⟩:=hr;have l1:=OS (L:=L) (Nat.le_max_left c c');have l2:=OS (L:=L) (Nat.le_max_right c c');have Ek:nP ((JP L (max c c')).pt f vs C2.emp)=some (z,es):=Aib (l2.2.1 f vs C2.emp) cz;refine ⟨n,max c c',GD,n0,?_,oM l1 (Nat.le_refl n) ni,hq⟩;simp only[JZ];have:JE (JP L (max c c')) ⟨d,.ay s f xs,g,c4⟩ st=some (st.app d (.new s ⟨z,es⟩ (λ t => .row s t z 0 es.length))):=by
  simp only[JE,h,k6,hv,Ek,Option.map_some]
 rw[this];exact oU l1 hs
def EvS (L:Lib) (s f:Nat) (vs:List AV) (q:H1) (r:AV) (q':H1):Prop := ∃ n,∀ o:C2,o s=q->KP L n f vs o=some (r,o.put s q')
theorem Apa {d:Option Nat} {s f:Nat} {xs:List C4} {g:Option (Nat × Bool)} {c4:List Nat} {l:List AI} {r:AV} {q':H1} (h:OL st g=some true) (hr:EvS L s f (xs.map st.ev) (st.own s) r q')
  (ha:AO L l k (st.app d (.Hl s q' r)) Q):AO L (⟨d,.iy s f xs,g,c4⟩::l) k st Q:=by
 obtain ⟨n,c,GD,n0,hs,ni,hq⟩:=ha;obtain ⟨c',cz⟩:=hr;have l1:=OS (L:=L) (Nat.le_max_left c c');have l2:=OS (L:=L) (Nat.le_max_right c c');have Ek:AbA (JP L (max c c')) f (xs.map st.ev) s (st.own s)=some (r,q'):=AbB.2 λ o ho=>l2.2.1 f _ o _ (cz o ho)
 refine ⟨n,max c c',GD,n0,?_,oM l1 (Nat.le_refl n) ni,hq⟩;simp only[JZ];have:JE (JP L (max c c')) ⟨d,.iy s f xs,g,c4⟩ st=some (st.app d (.Hl s q' r)):=by
  simp only[JE,h,k6,Ek,Option.map_some]
 rw[this];exact oU l1 hs
theorem Ao5 {d:Option Nat} {f:Nat} {xs:List C4} {g:Option (Nat × Bool)} {c4:List Nat} {l:List AI} {r:AV} {o':C2} (h:OL st g=some true) (hr:P9 L f (xs.map st.ev) st.own r o') :
  AO L (⟨d,.j6 f xs,g,c4⟩::l) k st Q↔AO L l k { (st.dst d r) with own:=o' } Q:=by
 have o4 : ∀ c r' o1,KP L c f (xs.map st.ev) st.own=some (r',o1)->JE (JP L c) ⟨d,.j6 f xs,g,c4⟩ st=some { (st.dst d r') with own:=o1 }:=λ c r' o1 hc=>by
  have cz:(JP L c).pt f (xs.map st.ev) st.own=some (r',o1):=hc;simp [JE,h,k6,cz,St.app]
 constructor
 ·rintro ⟨n,c,GD,n0,hs,ni,hq⟩
  simp only[JZ]at hs;cases hI:JE (JP L c) ⟨d,.j6 f xs,g,c4⟩ st with
  | none=>simp [hI]at hs
  | some E7 =>
   simp only[hI]at hs;cases hp:KP L c f (xs.map st.ev) st.own with
   | none =>
    have cz:(JP L c).pt f (xs.map st.ev) st.own=none:=hp;simp [JE,h,k6,cz]at hI
   | some x =>
    obtain ⟨r',o1⟩:=x;obtain ⟨rfl,rfl⟩:=P9.Lx ⟨c,hp⟩ hr;rw[o4 c r' o1 hp]at hI;obtain rfl:=Option.some.inj hI;exact ⟨n,c,GD,n0,hs,ni,hq⟩
 ·rintro ⟨n,c,GD,n0,hs,ni,hq⟩
  obtain ⟨c',cz⟩:=hr;have l1:=OS (L:=L) (Nat.le_max_left c c');have l2:=OS (L:=L) (Nat.le_max_right c c');refine ⟨n,max c c',GD,n0,?_,oM l1 (Nat.le_refl n) ni,hq⟩;simp only[JZ];rw[o4 (max c c') r o' (l2.2.1 f _ _ _ cz)];exact oU l1 hs
theorem Ao9 {d:Option Nat} {f:Nat} {cs:List AV} {x:C4} {xs:List C4} {g:Option (Nat × Bool)} {c4:List Nat} {l:List AI} {r:AV} {o':C2} (h:OL st g=some true) (hx:st.ev x = .fn false f (L.num f) cs) (hr:P9 L f (xs.map st.ev++cs) st.own r o') :
  AO L (⟨d,.w5 x xs,g,c4⟩::l) k st Q↔AO L l k { (st.dst d r) with own:=o' } Q:=by
 have o4 : ∀ c r' o1,KP L c f (xs.map st.ev++cs) st.own=some (r',o1)->JE (JP L c) ⟨d,.w5 x xs,g,c4⟩ st=some { (st.dst d r') with own:=o1 }:=λ c r' o1 hc=>by
  have cz:(JP L c).pt f (xs.map st.ev++cs) st.own=some (r',o1):=hc;simp [JE,h,k6,hx,wJ,cz,St.app]
 constructor
 ·rintro ⟨n,c,GD,n0,hs,ni,hq⟩
  simp only[JZ]at hs;cases hI:JE (JP L c) ⟨d,.w5 x xs,g,c4⟩ st with
  | none=>simp [hI]at hs
  | some E7 =>
   simp only[hI]at hs;cases hp:KP L c f (xs.map st.ev++cs) st.own with
   | none =>
    have cz:(JP L c).pt f (xs.map st.ev++cs) st.own=none:=hp;simp [JE,h,k6,hx,wJ,cz]at hI
   | some x =>
    obtain ⟨r',o1⟩:=x;obtain ⟨rfl,rfl⟩:=P9.Lx ⟨c,hp⟩ hr;rw[o4 c r' o1 hp]at hI;obtain rfl:=Option.some.inj hI;exact ⟨n,c,GD,n0,hs,ni,hq⟩
 ·rintro ⟨n,c,GD,n0,hs,ni,hq⟩
  obtain ⟨c',cz⟩:=hr;have l1:=OS (L:=L) (Nat.le_max_left c c');have l2:=OS (L:=L) (Nat.le_max_right c c');refine ⟨n,max c c',GD,n0,?_,oM l1 (Nat.le_refl n) ni,hq⟩;simp only[JZ];rw[o4 (max c c') r o' (l2.2.1 f _ _ _ cz)];exact oU l1 hs
theorem AoW {Q':St->Prop} (h:AK L k st Q) (hq : ∀ s,Q s->Q' s):AK L k st Q':=by
 obtain ⟨n,c,n0,hr,hh⟩:=h;exact ⟨n,c,n0,hr,hq _ hh⟩
theorem P9.intro {f:Nat} {fn:AFn} {vs:List AV} {o:C2} {r:AV} {o':C2} (hL:L f=some fn) (hp:vs.length=fn.gp) (h:AK L [.code fn.body] ⟨IQ 0 vs,o⟩ (λ st=>(fn.res.mapM (NQ st)).map X3=some r/\st.own=o')):P9 L f vs o r o':=by
 obtain ⟨n,c,n0,hr,h1,h2⟩:=h;refine ⟨max n c+1,?_⟩;rw[Ue];simp only[hL,hp,if_true];rw[oM (OS (L:=L) (Nat.le_max_right n c)) (Nat.le_max_left n c) hr];cases hm:fn.res.mapM (NQ n0) with
 | none=>rw[hm]at h1;cases h1
 | some rs =>
  rw[hm]at h1;simp only[Option.map_some,Option.some.injEq]at h1;simp [hm,h1,h2]
theorem O9.intro {f:Nat} {fn:AFn} {vs:List AV} {r:AV} (hL:L f=some fn) (hp:vs.length=fn.gp) (h:AK L [.code fn.body] ⟨IQ 0 vs,C2.emp⟩ (λ st=>((fn.res.mapM (NQ st)).map X3).bind (sL st.own false)=some r/\EA r)):O9 L f vs r:=by
 obtain ⟨n,c,n0,hr,h1,h2⟩:=h;cases hm:(fn.res.mapM (NQ n0)).map X3 with
 | none=>rw[hm]at h1;cases h1
 | some r0 =>
  rw[hm]at h1;simp only[Option.bind_some]at h1;obtain ⟨q,hq⟩:=P9.intro (o:=C2.emp) (r:=r0) (o':=n0.own) hL hp ⟨n,c,n0,hr,hm,rfl⟩;refine ⟨q,?_⟩;unfold Y4;simp [hq,h1,h2]
theorem O9.ev {f:Nat} {fn:AFn} {vs:List AV} {r:AV} (hL:L f=some fn) (h:O9 L f vs r) (hs:fn.Aq=false:=by rfl):Ev L f vs r:=by
 obtain ⟨n,h⟩:=h;have hs:L.Aq f=false:=by simp only[Lib.Aq,hL,hs]
 exact ⟨n,by unfold V3 cU;rw[hs];exact h⟩
theorem O9.cons {f:Nat} {q:Bool} {e:List AV} {es:List (List AV)} {vs:List AV} {r:AV} (h:O9 L f (.sl q (e::es)::vs) r):Ev L f (.sl q (e::es)::vs) r:=by
 obtain ⟨n,h⟩:=h;refine ⟨n,?_⟩;unfold V3 cU;split
 ·rename_i heq;simp at heq
 ·exact h
theorem O9.nil {f:Nat} {fn:AFn} {q:Bool} {vs:List AV} {r:AV} (hL:L f=some fn) (h1:O9 L f (.gx (.bool true)::vs) r) (h2:O9 L f (.gx (.bool false)::vs) r) (hs:fn.Aq=true:=by rfl):Ev L f (.sl q []::vs) r:=by
 obtain ⟨n,h1⟩:=h1;obtain ⟨n',h2⟩:=h2;have hs:L.Aq f=true:=by simp only[Lib.Aq,hL,hs]
 have k1:=Sy (λ vs r h=>(OS (L:=L) (Nat.le_max_left n n')).2.1 f vs C2.emp r h) h1;have k2:=Sy (λ vs r h=>(OS (L:=L) (Nat.le_max_right n n')).2.1 f vs C2.emp r h) h2;refine ⟨max n n',?_⟩;unfold V3 cU;rw[hs];simp only;have k1':Y4 (λ vs=>KP L (max n n') f vs C2.emp) (.gx (.bool true)::vs)=some r:=k1;have k2':Y4 (λ vs=>KP L (max n n') f vs C2.emp) (.gx (.bool false)::vs)=some r:=k2;rw[k1',k2'];simp
theorem Ev.intro {f:Nat} {fn:AFn} {vs:List AV} {r:AV} (hL:L f=some fn) (hp:vs.length=fn.gp) (h:AK L [.code fn.body] ⟨IQ 0 vs,C2.emp⟩ (λ st=>((fn.res.mapM (NQ st)).map X3).bind (sL st.own false)=some r/\EA r)) (hs:fn.Aq=false:=by rfl):Ev L f vs r :=
 (O9.intro hL hp h).ev hL hs
end
end Go.c9

namespace Go.c9
section
variable {L:Lib} {k:List It} {tm:Tm} {own:C2} {Q:St->Prop} {l:List AI} {c4:List Nat} {d:Nat}
theorem Rj (i:Nat) (v:AV) (r:Tm) (j:Nat):k7 ((i,v)::r) j=if j=i then v else k7 r j:=rfl
theorem AxJ (j:Nat):k7 [] j = .any:=rfl
theorem AxE (i:Nat) (v:AV) (r:Tm) (l:List Nat):gd ((i,v)::r) l=if l.contains i then gd r l else (i,v)::gd r l:=rfl
theorem AxF (l:List Nat):gd [] l=[]:=rfl
theorem AuS (i:Nat) (v:AV) (r:List AV):IQ i (v::r)=(i,v)::IQ (i+1) r:=rfl
end
end Go.c9

namespace Go.c9
section
variable {L:Lib} {k:List It} {tm:Tm} {own:C2} {st:St} {Q:St->Prop} {l:List AI} {c4:List Nat} {d:Nat} {dst:Option Nat}
section
variable {x y:C4} {kd:IntKind} {a b:Int}
end
def zK (fn:AFn) (r:AV) (st:St):Prop:=((fn.res.mapM (NQ st)).map X3).bind (sL st.own false)=some r/\EA r
theorem Ev.fwd {f:Nat} {fn:AFn} {vs:List AV} {r:AV} (hL:L f=some fn) (hp:vs.length=fn.gp) (h:AK L [.code fn.body] ⟨IQ 0 vs,C2.emp⟩ (zK fn r)) (hs:fn.Aq=false:=by rfl):Ev L f vs r:=Ev.intro hL hp h hs
theorem O9.fwd {f:Nat} {fn:AFn} {vs:List AV} {r:AV} (hL:L f=some fn) (hp:vs.length=fn.gp) (h:AK L [.code fn.body] ⟨IQ 0 vs,C2.emp⟩ (zK fn r)):O9 L f vs r:=O9.intro hL hp h
end
attribute [irreducible] zK
end Go.c9

namespace Go.c9
def pw (n:Int):Int:=2^n.toNat
theorem O2 (n:Int):1<=pw n:=by
 have:0<pw n:=Int.pow_pos (by decide)
 omega
theorem aV {n m:Int} (h:n<=m):pw n<=pw m:=by
 unfold pw;have h':n.toNat<=m.toNat:=by omega
 have h2:=Nat.pow_le_pow_right (n:=2) (by decide) h';have h3:((2^n.toNat:Nat):Int)<=((2^m.toNat:Nat):Int):=by exact_mod_cast h2
 simpa using h3
theorem Af8 {n:Int} (h:n<=62):pw n<=4611686018427387904:=aV (m:=62) h
theorem Ax8 {a:Int} (h:0<=a) (h':a<=9223372036854775807):IntKind.i64.wrap a=a:=IntWalk.i64_in _ ⟨by omega,h'⟩
theorem Aw5 {k2:IntKind} {n:Int} (h:0<=n/\n<=62):J0 .shl .i64 1 k2 n=some (.int .i64 (pw n)):=by
 have h1:=Af8 h.2;have h2:=O2 n;have e:(1:Int)*2^(min n.toNat IntKind.i64.bits)=pw n:=by
  have:min n.toNat IntKind.i64.bits=n.toNat:=by simp only[IntKind.bits];omega
  rw[this,Int.one_mul];rfl
 simp only[J0];rw[if_neg (by omega),e,Ax8 (by omega) (by omega)]
theorem Aw6 {k2:IntKind} {a n:Int} (h:0<=n/\n<=63):J0 .shr .i64 a k2 n=some (.int .i64 (a/pw n)):=by
 have h2:=O2 n;have e:(2:Int)^(min n.toNat IntKind.i64.bits)=pw n:=by
  have:min n.toNat IntKind.i64.bits=n.toNat:=by simp only[IntKind.bits];omega
  rw[this];rfl
 simp only[J0];rw[if_neg (by omega),e,Int.fdiv_eq_ediv_of_nonneg _ (by omega)]
theorem Aoj {a m:Int} (hm:0<m):a.tmod m=if 0<=a\/a%m=0 then a%m else a%m-m:=by
 have h:=Int.tmod_eq_emod (a:=a) (b:=m);rw[h];have hd:m ∣ a↔a%m=0:=Int.dvd_iff_emod_eq_zero;by_cases h0:0<=a\/a%m=0
 ·rw[if_pos h0,if_pos (by rcases h0 with h0|h0;exact Or.inl h0;exact Or.inr (hd.2 h0))];omega
 ·rw[if_neg h0,if_neg (λ h=>h0 (h.imp id hd.1))]
  have:(m.natAbs:Int)=m:=by omega
  omega
theorem Aof {a m:Int} (hm:0<m):a.tdiv m=if 0<=a\/a%m=0 then a/m else a/m+1:=by
 have h:=Int.tdiv_eq_ediv (a:=a) (b:=m);rw[h];have hd:m ∣ a↔a%m=0:=Int.dvd_iff_emod_eq_zero;by_cases h0:0<=a\/a%m=0
 ·rw[if_pos h0,if_pos (by rcases h0 with h0|h0;exact Or.inl h0;exact Or.inr (hd.2 h0))];omega
 ·rw[if_neg h0,if_neg (λ h=>h0 (h.imp id hd.1)),Int.sign_eq_one_of_pos hm]
theorem AsC {a m:Int} (hm:1<=m) (h : -9223372036854775808<=a/\a<=9223372036854775807) : -9223372036854775808<=a/m/\a/m<=9223372036854775807:=by
 constructor
 ·rw[Int.le_ediv_iff_mul_le (by omega)]
  have:=Int.mul_le_mul_of_nonpos_left (a := -9223372036854775808) (b:=m) (c:=1) (by omega) hm
  omega
 ·have:a/m<9223372036854775808:=by
   rw[Int.ediv_lt_iff_lt_mul (by omega)];have:=Int.mul_le_mul_of_nonneg_left (c:=9223372036854775808) (a:=1) (b:=m) hm (by omega)
   omega
  omega
section
variable {L:Lib} {k:List It} {tm:Tm} {own:C2} {Q:St->Prop} {l:List AI} {c4:List Nat} {d:Nat} {x y:C4} {a b n p:Int} {k2:IntKind}
end
end Go.c9

namespace Go.c9
theorem yT (ts:List Nat) (j:Nat) : ∀ tm:Tm,k7 (gd tm ts) j=if ts.contains j then .any else k7 tm j
 | []=>by simp [AxF,AxJ]
 | (i,u)::r=>by
  rw[AxE];by_cases h:ts.contains i=true
  ·rw[if_pos h,yT ts j r,Rj]
   by_cases h2:j=i
   ·subst h2;rw[if_pos h,if_pos h]
   ·rw[if_neg h2]
  ·rw[if_neg h,Rj,Rj,yT ts j r]
   by_cases h2:j=i
   ·subst h2;rw[if_pos rfl,if_pos rfl,if_neg h]
   ·rw[if_neg h2,if_neg h2]
def aP (j:Nat):List Nat->Bool
 | []=>false
 | i::r=>bif Nat.beq j i then true else aP j r
abbrev IM (n:Int):List AV:=[.int .i64 n]
section
variable {L:Lib} {k:List It} {tm:Tm} {own:C2} {Q:St->Prop} {l:List AI} {c4:List Nat} {d:Nat} {x i:C4} {kd:IntKind} {a:Int} {q:Bool} {α:Type} {es:List α} {enc:α->List AV} {z:Nat}
end
end Go.c9

namespace Go.c9
inductive FB where
 | bx (cs:List AV)
 | rw (z:Nat) (es:List (List AV))
 | bs (z:Nat) (es:List (List AV))
 | mx (rows:List (Option (Nat × List (List AV))))
 | hx (i:Nat) (v:AV) (rows:List (Option (Nat × List (List AV))))
 | vw (w:List Nat) (rows:List (Option (Nat × List (List AV))))
abbrev Mem:=List (Nat × Nat × FB)
def g7:Mem->Nat->Option (Nat × FB)
 | [],_=>none
 | (k,s,c)::r,j=>bif Nat.beq j k then some (s,c) else g7 r j
def g6 (M:Mem) (k t:Nat):Option FB:=match g7 M k with
 | none=>none
 | some (_,c)=>match t with
  | 0=>some c
  | i+1=>match c with
   | .mx rows=>match rows[i]? with
    | some (some (z,es))=>some (.rw z es)
    | _=>none
   | .hx _ _ rows=>match rows[i]? with
    | some (some (z,es))=>some (.rw z es)
    | _=>none
   | .vw _ rows=>match rows[i]? with
    | some (some (z,es))=>some (.rw z es)
    | _=>none
   | _=>none
def bg (j:Nat):Mem->Mem
 | []=>[]
 | (k,s,c)::r=>bif Nat.beq j k then bg j r else (k,s,c)::bg j r
def tg:Tm->Nat->AV
 | [],_ => .any
 | (i,v)::r,j=>bif Nat.beq j i then v else tg r j
def bit (m i:Nat):Bool:=Nat.beq (Nat.land (Nat.shiftRight m i) 1) 1
def mask:Nat->List Nat->Nat
 | m,[]=>m
 | m,t::ts=>mask (Nat.lor m (Nat.shiftLeft 1 t)) ts
def Gp (m:Nat):Tm->Tm
 | []=>[]
 | (i,v)::r=>bif bit m i then Gp m r else (i,v)::Gp (Nat.lor m (Nat.shiftLeft 1 i)) r
def fN (n:Nat) (K:Nat->Prop):Prop:=match n with
 | 0=>K 0
 | k+1=>K (k+1)
def Ea:AV->Bool
 | .int _ _=>true | .bool _=>true | .gx _=>true | .sl _ _=>true | .nil=>true
 | _=>false
def LX:List AV->Bool
 | []=>true
 | v::r=>bif Ea v then LX r else false
def Tv:List (List AV)->Bool
 | []=>true
 | v::r=>bif LX v then Tv r else false
def mK (s:Nat):AV->Bool
 | .row k _ _ _ _=>Nat.beq k s | .ptr k _ _ _=>Nat.beq k s
 | _=>false
def ZI (s:Nat):List AV->Bool
 | []=>false
 | v::r=>bif mK s v then true else ZI s r
def sI (s:Nat):List (List AV)->Bool
 | []=>false
 | v::r=>bif ZI s v then true else sI s r
def qO (s:Nat):AV->Bool
 | .agg cs=>ZI s cs
 | .fn _ _ _ cs=>ZI s cs
 | v=>mK s v
def yJ (s:Nat):List AV->Bool
 | []=>false
 | v::r=>bif qO s v then true else yJ s r
def mL (s:Nat):AV->Bool
 | .j5 vs=>yJ s vs
 | v=>qO s v
def X6 (s:Nat):Tm->Bool
 | []=>false
 | (_,v)::r=>bif mL s v then true else X6 s r
def X5 (s:Nat):FB->Bool
 | .bx cs=>ZI s cs
 | .rw _ _=>false
 | .bs _ es=>sI s es
 | .mx _=>false
 | .hx _ _ _=>false
 | .vw _ _=>false
def QV (s:Nat):Mem->Bool
 | []=>false
 | (k,_,c)::r=>bif Nat.beq s k then true else bif X5 s c then true else QV s r
def pR (s:Nat):AV->Bool
 | .row k t _ _ _=>bif Nat.beq k s then (match t with|0=>false|_+1=>true) else false
 | .ptr k t _ _=>bif Nat.beq k s then (match t with|0=>false|_+1=>true) else false
 | _=>false
def nQ (s:Nat):List AV->Bool
 | []=>false
 | v::r=>bif pR s v then true else nQ s r
def tM (s:Nat):AV->Bool
 | .agg cs=>nQ s cs
 | .fn _ _ _ cs=>nQ s cs
 | v=>pR s v
def wD (s:Nat):List AV->Bool
 | []=>false
 | v::r=>bif tM s v then true else wD s r
def rF (s:Nat):AV->Bool
 | .j5 vs=>wD s vs
 | v=>tM s v
def nR (s:Nat):Tm->Bool
 | []=>false
 | (_,v)::r=>bif rF s v then true else nR s r
def wI (s:Nat):List (List AV)->Bool
 | []=>false
 | v::r=>bif nQ s v then true else wI s r
def pT (s:Nat):FB->Bool
 | .bx cs=>nQ s cs
 | .bs _ es=>wI s es
 | _=>false
def cA (s:Nat):Mem->Bool
 | []=>false
 | (_,_,c)::r=>bif pT s c then true else cA s r
def used (k:Nat) (tm:Tm) (M:Mem):Bool:=bif QV k M then true else X6 k tm
def Acv (tm:Tm) (M:Mem):List Nat->(Nat->Prop)->Prop
 | [],_=>False
 | k::r,K=>bif used k tm M then Acv tm M r K else K k
def RP (s:Nat) (tm:Tm) (M:Mem) (K:Nat->Prop):Prop:=Acv tm M [s,s+1000000,s+2000000,s+3000000] K
def fL:List AV->(List AV->Prop)->Prop
 | [],K=>K []
 | v::r,K=>fL r λ r'=>K (v::r')
def fV (v:AV) (K:AV->Prop):Prop:=match v with
 | .int k n=>K (.int k n) | .bool b=>K (.bool b) | .sl l es=>K (.sl l es) | .row s t z o n=>K (.row s t z o n)
 | .nil=>K .nil | .ptr s t i j=>K (.ptr s t i j) | .db cs=>K (.db cs) | .agg cs=>fL cs λ cs=>K (.agg cs)
 | .fn p f g cs=>fL cs λ cs=>K (.fn p f g cs)
 | .j5 vs=>fL vs λ vs=>K (.j5 vs) | .gx c=>K (.gx c) | .any=>False
def fC (v:AV) (K:List AV->Prop):Prop:=match v with
 | .agg cs=>fL cs K
 | .fn _ _ _ _=>False
 | .j5 _=>False
 | .any=>False
 | v=>fV v λ v=>K [v]
def fB (b:Bool) (K:Bool->Prop):Prop:=match b with
 | true=>K true
 | false=>K false
def fT:Tm->(Tm->Prop)->Prop
 | [],K=>K []
 | (i,v)::r,K=>fT r λ r'=>K ((i,v)::r')
def fM:Mem->(Mem->Prop)->Prop
 | [],K=>K []
 | (k,s,c)::r,K=>fM r λ r'=>K ((k,s,c)::r')
def fF (v:AV) (K:AV->Prop):Prop:=match v with
 | .int k n=>K (.int k n) | .bool b=>K (.bool b) | .sl l es=>K (.sl l es) | .row s t z o n=>K (.row s t z o n)
 | .nil=>K .nil | .ptr s t i j=>K (.ptr s t i j) | .gx c=>K (.gx c)|_=>False
def f2 (v:AV) (K:AV->Prop):Prop:=match v with
 | .int k n=>K (.int k n) | .bool b=>K (.bool b) | .sl l es=>K (.sl l es) | .row s t z o n=>K (.row s t z o n)
 | .nil=>K .nil | .ptr s t i j=>K (.ptr s t i j) | .gx c=>K (.gx c) | .agg cs=>fL cs λ cs=>K (.agg cs) | .fn p f g cs=>fL cs λ cs=>K (.fn p f g cs)|_=>False
def Bo (agg:Bool) (ds:List AV) (K:AV->Prop):Prop:=match agg with
 | true=>K (.agg ds)
 | false=>match ds with
  | [c]=>fF c K
  | _=>False
def B0 (p q A B:Prop):Prop:=(p->A)/\(q->B)
def D8 (p A:Prop):Prop:=p/\A
def BK (op:BinOp) (k:IntKind) (a:Int) (k':IntKind) (b:Int) (K:AV->Prop):Prop := ∃ v,J0 op k a k' b=some v/\K v
def IH (op:UnOp) (k:IntKind) (n:Int) (K:AV->Prop):Prop := ∃ v,sT op (.int k n)=some v/\K v
structure EI (k:IntKind) (n:Int) (K:Int->Prop):Prop where h:K (k.wrap n)
def DY (es:List (List AV)) (a:Int) (z:Nat) (K:List AV->Prop):Prop:=0<=a /\ ∃ cs,es[a.toNat]? = some cs/\cs.length=z/\K cs
def FC (es:List (List AV)) (i j n:Nat) (K:List AV->Prop):Prop := ∃ cs ds,es[i]? = some cs/\part cs j n=some ds/\K ds
def E1 (es:List (List AV)) (i j:Nat) (vs:List AV) (K:List (List AV)->Prop):Prop := ∃ cs,es[i]? = some cs/\j+vs.length<=cs.length/\K (es.set i (splice cs j vs))
def HI (a b:Int) (bytes:Nat) (zero:List AV) (K:List (List AV)->Nat->Prop):Prop:=(0<=a/\a<=b/\b*bytes<=NR/\b<=9223372036854775807)/\K (List.replicate a.toNat zero) a.toNat
structure C8 (es:List (List AV)) (K:Nat->Prop):Prop where h:K es.length
def F9 (es:List (List AV)) (len:Nat) (ys:List (List AV)) (z bytes:Nat) (K:List (List AV)->Nat->Prop):Prop :=
 len<=es.length/\(∀ e∈ys,e.length=z)/\(len+ys.length)*bytes<=NR/\len+ys.length<=9223372036854775807/\K (es.take len++ys) (len+ys.length)
def IA (ys:List (List AV)) (z bytes:Nat) (K:List (List AV)->Nat->Prop):Prop :=
 (∀ e∈ys,e.length=z)/\ys.length*bytes<=NR/\ys.length<=9223372036854775807/\K ys ys.length
def LT (es:List (List AV)) (off len:Nat) (ys:List (List AV)) (z:Nat) (K:List (List AV)->Nat->Prop):Prop :=
 off+len<=es.length/\(∀ e∈ys,e.length=z)/\K (es.take off++ys.take len++es.drop (off+min ys.length len)) (min ys.length len)
def GS (es:List (List AV)) (off len:Nat) (K:List (List AV)->Prop):Prop:=off+len<=es.length/\K ((es.drop off).take len)
def N0:List AV->Bool
 | []=>true
 | v::r=>match v with
  | .int _ _=>N0 r | .bool _=>N0 r | .gx _=>N0 r | .sl _ _=>N0 r
  | _=>false
def nl:AV->AV
 | .nil => .sl false []
 | v=>v
def gL:List AV->Bool
 | []=>true
 | v::r=>match v with
  | .int _ _=>gL r | .bool _=>gL r | .gx _=>gL r | .sl _ _=>gL r | .nil=>gL r
  | _=>false
def EF (es:List (List AV)) (off len:Nat) (K:List (List AV)->Prop):Prop:=off+len<=es.length/\(∀ e∈es,gL e=true)/\K (((es.drop off).take len).map λ e=>e.map nl)
def IO (rows:List (Option (Nat × List (List AV)))) (i:Nat) (K:Option (Nat × List (List AV))->Prop):Prop := ∃ r,rows[i]? = some r/\K r
def H0 (rows:List (Option (Nat × List (List AV)))) (i:Nat) (K:Nat->List (List AV)->Prop):Prop := ∃ z es,rows[i]? = some (some (z,es))/\K z es
def JM (rows:List (Option (Nat × List (List AV)))) (i z:Nat) (es:List (List AV)) (K:List (Option (Nat × List (List AV)))->Prop):Prop:=i<rows.length/\K (rows.set i (some (z,es)))
def KX (rows:List (Option (Nat × List (List AV)))) (i z:Nat) (es es':List (List AV)) (K:List (Option (Nat × List (List AV)))->Prop):Prop:=es'.length=es.length/\K (rows.set i (some (z,es')))
def J9 (a b:Int) (bytes:Nat) (K:List (Option (Nat × List (List AV)))->Nat->Prop):Prop:=(0<=a/\a<=b/\b*bytes<=NR/\b<=9223372036854775807)/\K (List.replicate a.toNat none) a.toNat
def GV (rows:List (Option (Nat × List (List AV)))) (len:Nat) (r:Option (Nat × List (List AV))) (bytes:Nat) (K:List (Option (Nat × List (List AV)))->Nat->Prop):Prop :=
 len=rows.length/\(len+1)*bytes<=NR/\len+1<=9223372036854775807/\K (rows++[r]) (len+1)
def oI (q:Bool):List (Option (Nat × List (List AV)))->List (List AV)
 | []=>[]
 | none::r=>[.sl false []]::oI q r
 | some (_,es)::r=>[.sl q es]::oI q r
def IJ (q:Bool) (rows:List (Option (Nat × List (List AV)))) (off len:Nat) (K:List (List AV)->Prop):Prop :=
 off=0/\len=rows.length/\(∀ z es,some (z,es)∈rows -> ∀ e∈es,N0 e=true)/\K (oI q rows)
def HH (lo hi:Option Int) (len:Nat) (K:Nat->Nat->Prop):Prop :=
 ∃ a h:Nat,(match lo with|none=>a=0|some x=>0<=x/\a=x.toNat)/\(match hi with|none=>h=len|some x=>0<=x/\x<=len/\h=x.toNat)/\a<=h/\K a h
def H4 (z:Nat) (es:List (List AV)) (lo hi:Option Int) (K:List (List AV)->Prop):Prop:=(∀ e∈es,e.length=z)/\HH lo hi es.length λ a h=>K ((es.take h).drop a)
def BD (L:Lib) (f:Nat) (vs:List AV) (K:AV->Prop):Prop := ∃ r,Ev L f vs r/\K r
def Apg (n:Nat) (cs ds:List AV) (K:Bool->Prop):Prop := ∃ a b,Afo cs=some a/\Afo ds=some b/\a.length=n/\b.length=n/\K (decide (a=b))
def Ab6:List AV->Bool
 | []=>true
 | .int _ _::r=>Ab6 r
 | _=>false
def JW (L:Lib) (f:Nat) (vs:List AV) (K:Nat->List (List AV)->Nat->Prop):Prop := ∃ z es n,aH L f vs z es/\n=es.length/\K z es n
abbrev OA:=Nat->Nat->Nat × Nat
def E7 (σ:OA):AV->AV
 | .row k t z o n => .row (σ k t).1 (σ k t).2 z o n
 | .ptr k t i j => .ptr (σ k t).1 (σ k t).2 i j
 | v=>v
def GD (σ:OA):AV->AV
 | .agg cs => .agg (cs.map (E7 σ))
 | .fn p f g cs => .fn p f g (cs.map (E7 σ))
 | v=>E7 σ v
def FG (σ:OA):AV->AV
 | .j5 vs => .j5 (vs.map (GD σ))
 | v=>GD σ v
def IE (σ:OA) (k:Nat):Nat->List (Option (Nat × List (List AV)))->List (List AV)
 | _,[]=>[]
 | i,none::r=>[.nil]::IE σ k (i+1) r
 | i,some (z,es)::r=>[.row (σ k (i+1)).1 (σ k (i+1)).2 z 0 es.length]::IE σ k (i+1) r
def FB.k8 (σ:OA) (k:Nat):FB->LS
 | .bx cs=>⟨cs.length,[cs.map (E7 σ)]⟩
 | .rw z es=>⟨z,es⟩
 | .bs z es=>⟨z,es.map λ cs=>cs.map (E7 σ)⟩
 | .mx rows=>⟨1,IE σ k 0 rows⟩
 | .hx i v rows=>⟨1,(IE σ k 0 rows).set i [v]⟩
 | .vw w rows=>⟨1,w.map λ t=>((IE σ k 0 rows)[t]?).getD []⟩
def FB.xv:FB->Bool
 | .bx _=>false
 | _=>true
def OM (s:Nat):Bool:=Nat.blt s 900000
structure YF (σ:OA) (own:C2) (M:Mem):Prop where
 site : ∀ k s c,g7 M k=some (s,c)->(σ k 0).1=s
 k8 : ∀ k t c,g6 M k t=some c->(own (σ k t).1).k8 (σ k t).2=some (c.k8 σ k)
 old : ∀ k t c,g6 M k t=some c->(σ k t).2<(own (σ k t).1).k9
 inj : ∀ k t k' t' c c',g6 M k t=some c->g6 M k' t'=some c'->σ k t=σ k' t'->k=k'/\t=t'
 low : ∀ k t c,g6 M k t=some c->c.xv=true->OM (σ k t).1=true
structure RX (σ:OA) (tm:Tm) (M:Mem) (st:St):Prop where
 tm : ∀ j,tg tm j = .any\/k7 st.tm j=FG σ (tg tm j)
 sat:YF σ st.own M
def SQ (Q:Tm->Mem->Prop) (st:St):Prop := ∃ σ tm M,RX σ tm M st/\Q tm M
def A0 (L:Lib) (k:List It) (tm:Tm) (M:Mem) (Q:Tm->Mem->Prop):Prop := ∀ σ st,RX σ tm M st->AK L k st (SQ Q)
def AOM (L:Lib) (l:List AI) (k:List It) (tm:Tm) (M:Mem) (Q:Tm->Mem->Prop):Prop := ∀ σ st,RX σ tm M st->AO L l k st (SQ Q)
def EU (L:Lib) (f:Nat) (vs:List AV) (tm:Tm) (M:Mem) (K:AV->Mem->Prop):Prop :=
 ∀ σ own,YF σ own M -> ∃ r q8 σ' M',P9 L f (vs.map (FG σ)) own (FG σ' r) q8/\YF σ' q8 M'/\(∀ j,FG σ' (tg tm j)=FG σ (tg tm j))/\K r M'
def Apu (L:Lib) (s f key:Nat) (rest:List AV) (M:Mem) (K:AV->Mem->Prop):Prop :=
 ∃ (cells nm:List AV) (kd:IntKind) (n:Int),g7 M key=some (s,.bx cells)/\LX cells=true/\LX nm=true/\(∀ (t:Nat) (q:H1),q.k8 t=some ⟨cells.length,[cells]⟩->EvS L s f (.ptr s t 0 0::rest) q (.int kd n) (q.cr t (some ⟨nm.length,[nm]⟩)))/\K (.int kd n) ((key,s,.bx nm)::M)
def cv:AV->AV
 | .agg cs=>bif LX cs then .agg cs else .any
 | .j5 [] => .j5 []
 | .db _ => .any
 | .fn p f g [] => .fn p f g []
 | v=>bif Ea v then v else .any
def ex (tm:Tm):C4->AV
 | .t n=>tg tm n
 | .c v=>cv v
def kq (k k':IntKind):Bool:=decide (k=k')
def AdI (op:BinOp) (k:IntKind) (a:Int) (k':IntKind) (b:Int) (K:AV->Prop):Prop:=match op with
 | .lss=>bif kq k k' then B0 (a<b) (b<=a) (K (.bool true)) (K (.bool false)) else False
 | .leq=>bif kq k k' then B0 (a<=b) (b<a) (K (.bool true)) (K (.bool false)) else False
 | .gtr=>bif kq k k' then B0 (b<a) (a<=b) (K (.bool true)) (K (.bool false)) else False
 | .geq=>bif kq k k' then B0 (b<=a) (a<b) (K (.bool true)) (K (.bool false)) else False
 | .eql=>bif kq k k' then B0 (a=b) (a≠b) (K (.bool true)) (K (.bool false)) else False
 | .neq=>bif kq k k' then B0 (a≠b) (a=b) (K (.bool true)) (K (.bool false)) else False
 | op=>BK op k a k' b K
noncomputable def uK (mx:Bool) (k:IntKind) (K:AV->Prop) (a:Int) (l:List AV):Prop :=
 List.rec (motive:=λ_=>Int->Prop) (λ a=>K (.int k a)) (λ v _ ih a=>match v with
  | .int _ b=>bif mx then B0 (a<b) (b<=a) (ih b) (ih a) else B0 (b<a) (a<=b) (ih b) (ih a)
  | _=>False) l a
def Kc:List AV->Nat->AV
 | [],_ => .any
 | v::_,0=>v
 | _::r,n+1=>Kc r n
def sG (s:Nat):List Nat->Bool
 | []=>true
 | c4 => !(aP s c4)
def uN:List Nat->Bool
 | []=>true
 | s::r=>bif OM s then false else uN r
def rwX (M:Mem) (k t:Nat) (K:Nat->List (List AV)->Prop):Prop:=match g7 M k with
 | some (_,c)=>match t with
  | 0=>match c with
   | .rw z es=>K z es
   | _=>False
  | i+1=>match c with
   | .mx rows=>H0 rows i K
   | _=>False
 | none=>False
def elX (M:Mem) (v:AV) (K:List (List AV)->Prop):Prop:=match v with
 | .sl _ es=>K es
 | .nil=>K []
 | .gx (.bool _)=>K []
 | .row key t z off len=>rwX M key t λ z' es=>bif Nat.beq z z' then GS es off len K else False
 | _=>False
def vD (q:Bool) (M:Mem) (c4:List Nat) (v:AV) (K:AV->Prop):Prop:=match v with
 | .int k n=>K (.int k n)
 | .bool b=>K (.bool b)
 | .sl l es=>K (.sl l es)
 | .gx c=>K (.gx c)
 | .nil=>K (.sl false [])
 | .row key t z off len=>match g7 M key with
  | some (s,.rw z' es)=>match t with
   | 0=>bif Nat.beq z z' then bif sG s c4 then EF es off len λ es=>K (.sl q es) else False else False
   | _+1=>False
  | some (_,.mx rows)=>match t with
   | 0=>False
   | i+1=>match c4 with
    | []=>H0 rows i λ z' es=>bif Nat.beq z z' then EF es off len λ es=>K (.sl q es) else False
    | b::r=>bif uN (b::r) then H0 rows i λ z' es=>bif Nat.beq z z' then EF es off len λ es=>K (.sl q es) else False else False
  | _=>False
 | _=>False
noncomputable def AcT (q:Bool) (M:Mem) (c4:List Nat) (l:List AV):(List AV->Prop)->Prop :=
 List.rec (motive:=λ_=>(List AV->Prop)->Prop) (λ K=>K []) (λ v _ ih K=>vD q M c4 v λ v'=>ih λ r'=>K (v'::r')) l
noncomputable def AgJ (q:Bool) (M:Mem) (c4:List Nat) (l:List (List AV)):(List (List AV)->Prop)->Prop :=
 List.rec (motive:=λ_=>(List (List AV)->Prop)->Prop) (λ K=>K []) (λ v _ ih K=>AcT q M c4 v λ v'=>ih λ r'=>K (v'::r')) l
noncomputable def Zx (q:Bool) (M:Mem) (c4:List Nat) (v:AV) (K:AV->Prop):Prop:=match v with
 | .row key 0 z off len=>match g7 M key with
  | some (s,.bs z' es)=>bif Nat.beq z z' then bif sG s c4 then bif Nat.beq off 0 then D8 (len=es.length) (AgJ q M c4 es λ es=>K (.sl q es)) else False else False else False
  | some (_,.mx rows)=>match c4 with
   | []=>bif Nat.beq z 1 then IJ q rows off len λ es=>K (.sl q es) else False
   | _::_=>False
  | _=>vD q M c4 (.row key 0 z off len) K
 | v=>vD q M c4 v K
noncomputable def snL (q:Bool) (M:Mem) (c4:List Nat) (l:List AV):(List AV->Prop)->Prop :=
 List.rec (motive:=λ_=>(List AV->Prop)->Prop) (λ K=>K []) (λ v _ ih K=>Zx q M c4 v λ v'=>ih λ r'=>K (v'::r')) l
noncomputable def qR (q:Bool) (M:Mem) (c4:List Nat) (v:AV) (K:AV->Prop):Prop:=match v with
 | .agg cs=>snL q M c4 cs λ cs=>K (.agg cs)
 | v=>Zx q M c4 v K
noncomputable def Zy (tm:Tm) (M:Mem) (c4:List Nat) (l:List C4):(List AV->Prop)->Prop :=
 List.rec (motive:=λ_=>(List AV->Prop)->Prop) (λ K=>K []) (λ x _ ih K=>qR true M c4 (ex tm x) λ v=>ih λ vs=>K (v::vs)) l
noncomputable def snN (M:Mem) (c4:List Nat) (v:AV) (K:AV->Prop):Prop:=match v with
 | .nil=>K .nil
 | v=>qR true M c4 v K
noncomputable def AgO (tm:Tm) (M:Mem) (c4:List Nat) (l:List C4):(List AV->Prop)->Prop :=
 List.rec (motive:=λ_=>(List AV->Prop)->Prop) (λ K=>K []) (λ x _ ih K=>snN M c4 (ex tm x) λ v=>ih λ vs=>K (v::vs)) l
noncomputable def xG (tm:Tm) (l:List C4):(List AV->Prop)->Prop :=
 List.rec (motive:=λ_=>(List AV->Prop)->Prop) (λ K=>K []) (λ x _ ih K=>fV (ex tm x) λ v=>ih λ vs=>K (v::vs)) l
def obX (tm:Tm) (o:Option C4) (K:Option Int->Prop):Prop:=match o with
 | none=>K none
 | some x=>match ex tm x with
  | .int _ n=>K (some n)
  | _=>False
def lnX (es:List (List AV)) (K:Nat->Prop):Prop:=match es with
 | []=>K 0
 | [_]=>K 1
 | [_,_]=>K 2
 | [_,_,_]=>K 3
 | [_,_,_,_]=>K 4
 | es=>K es.length
noncomputable def bsX (tm:Tm) (z:Nat) (l:List C4):(List (List AV)->Prop)->Prop :=
 List.rec (motive:=λ_=>(List (List AV)->Prop)->Prop) (λ K=>K []) (λ x _ ih K=>fC (ex tm x) λ cs=>bif Nat.beq cs.length z then ih λ es=>K (cs::es) else False) l
noncomputable def flX (tm:Tm) (ps:List (Nat × Nat × C4)):List AV->(List AV->Prop)->Prop :=
 List.rec (motive:=λ_=>List AV->(List AV->Prop)->Prop) (λ cells K=>K cells) (λ p _ ih cells K=>fC (ex tm p.2.2) λ vs=>bif Nat.beq vs.length p.2.1 then bif Nat.ble (p.1+p.2.1) cells.length then fL (splice cells p.1 vs) λ cells=>ih cells K else False else False) ps
def rP (tm:Tm):List C4->List AV
 | []=>[]
 | x::r=>ex tm x::rP tm r
def tG (tb:List Nat) (n:Int) (K:Nat->Prop):Prop:=0<=n /\ ∃ v,tb[n.toNat]? = some v/\K v
noncomputable def oaX (tm:Tm) (l:List C4):(List AV->Prop)->Prop :=
 List.rec (motive:=λ_=>(List AV->Prop)->Prop) (λ K=>K []) (λ x _ ih K=>fF (ex tm x) λ v=>ih λ cs=>K (v::cs)) l
def AfY:AV->Bool
 | .agg _=>false | .fn _ _ _ _=>false | .j5 _=>false | .any=>false
 | _=>true
def Sl:List AV->Bool
 | []=>true
 | v::r=>bif AfY v then Sl r else false
def tH (M:Mem) (v:AV):Option (Nat × Option (Nat × Nat × Nat)):=match v with
 | .row ky 0 1 0 1=>match g7 M ky with
  | some (_,.bs 1 [[.row k2 0 z 0 n]])=>some (ky,some (k2,z,n))
  | some (_,.rw 1 [[.nil]])=>some (ky,none)
  | _=>none
 | _=>none
def stX (tm:Tm) (M:Mem) (K:AV->Mem->Prop) (n:Nat) (x v:C4):Prop:=match ex tm x with
 | .ptr key t i j=>fC (ex tm v) λ vs=>bif Nat.beq vs.length n then (match g7 M key with
  | some (s,c)=>match t with
   | 0=>match c with
    | .bx cs=>bif Nat.beq i 0 then bif Nat.ble (j+vs.length) cs.length then fL (splice cs j vs) λ lj=>K (.j5 []) ((key,s,.bx lj)::M) else False else False
    | .rw z es=>bif LX vs then E1 es i j vs λ es'=>K (.j5 []) ((key,s,.rw z es')::M) else False
    | .bs _ _=>False
    | .mx rows=>match vs with
     | [.row im 0 z 0 m]=>bif Nat.beq key im then False else bif nR key tm then False else bif cA key M then False else bif Nat.beq j 0 then (match g7 M im with
      | some (_,.rw z' es)=>bif Nat.beq z z' then fM (bg im M) λ M'=>D8 (m=es.length) (JM rows i z es λ ml=>K (.j5 []) ((key,s,.mx ml)::M')) else False
      | _=>False) else False
     | _=>False
    | .hx i0 _ rows=>match vs with
     | [.row im 0 z 0 m]=>bif Nat.beq key im then False else bif nR key tm then False else bif cA key M then False else bif Nat.beq j 0 then (match g7 M im with
      | some (_,.rw z' es)=>bif Nat.beq z z' then fM (bg im M) λ M'=>D8 (i=i0/\m=es.length) (JM rows i z es λ ml=>K (.j5 []) ((key,s,.mx ml)::M')) else False
      | _=>False) else False
     | _=>False
    | .vw _ _=>False
   | i'+1=>match c with
    | .mx rows=>bif LX vs then H0 rows i' λ z es=>E1 es i j vs λ es'=>KX rows i' z es es' λ ml=>K (.j5 []) ((key,s,.mx ml)::M) else False
    | _=>False
  | none=>False) else False
 | _=>False
def GT (r:AV) (K:AV->Prop):Prop:=(YD r\/sW r)/\K (fE r)
noncomputable def XE (L:Lib) (tm:Tm) (M:Mem) (c4:List Nat) (K:AV->Mem->Prop):K8->Prop
 | .y7 x=>fV (ex tm x) λ v=>K v M
 | .gj s z=>bif OM s then RP s tm M λ k=>K (.row k 0 z 0 0) ((k,s,.rw z [])::M) else False
 | .pick c a b=>match ex tm c with
  | .bool true=>fV (ex tm a) λ v=>K v M
  | .bool false=>fV (ex tm b) λ v=>K v M
  | _=>False
 | .bin op x y=>match ex tm x,ex tm y with
  | .int k a,.int k' b=>AdI op k a k' b λ v=>K v M
  | _,_=>False
 | .beq ne x y=>match ex tm x,ex tm y with
  | .bool a,.bool b=>fB (bif ne then !(a == b) else a == b) λ c=>K (.bool c) M
  | _,_=>False
 | .un op x=>match ex tm x with
  | .int k n=>IH op k n λ v=>K v M
  | .bool b=>match op with
   | .not=>fB (!b) λ c=>K (.bool c) M
   | _=>False
  | _=>False
 | .conv k x=>match ex tm x with
  | .int _ n=>EI k n λ v=>K (.int k v) M
  | _=>False
 | .box s x=>fC (ex tm x) λ cs=>RP s tm M λ k=>K (.ptr k 0 0 0) ((k,s,.bx cs)::M)
 | .alloc s zero=>bif LX zero then (RP s tm M λ k=>K (.ptr k 0 0 0) ((k,s,.bx zero)::M)) else False
 | .build zero parts=>bif LX zero then flX tm parts zero λ cs=>K (.agg cs) M else False
 | .a9 s z parts=>bif OM s then bsX tm z parts λ es=>lnX es λ n=>RP s tm M λ k=>bif Tv es then K (.row k 0 z 0 n) ((k,s,.rw z es)::M) else K (.row k 0 z 0 n) ((k,s,.bs z es)::M) else False
 | .m4 x off=>match ex tm x with
  | .ptr key t i j=>K (.ptr key t i (j+off)) M
  | .db cs=>fL (cs.drop off) λ cs=>K (.db cs) M
  | _=>False
 | .ye x off n agg=>match ex tm x with
  | .agg cs=>match part cs off n with
   | some ds=>fL ds λ ds=>Bo agg ds λ v=>K v M
   | none=>False
  | _=>False
 | .ch arr z x i=>match ex tm i with
  | .int _ n=>match arr,ex tm x with
   | some len,.ptr key t i' j=>D8 (0<=n/\n<(len:Int)) (K (.ptr key t i' (j+n.toNat*z)) M)
   | some len,.db cs=>D8 (0<=n/\n<(len:Int)) (fL (cs.drop (n.toNat*z)) λ cs=>K (.db cs) M)
   | none,.row key t z' off len=>bif Nat.beq z' z then D8 (0<=n/\n<(len:Int)) (K (.ptr key t (off+n.toNat) 0) M) else False
   | none,.sl _ es=>DY es n z λ cs=>K (.db cs) M
   | _,_=>False
  | _=>False
 | .ld agg n x=>match ex tm x with
  | .ptr key t i j=>match g7 M key with
   | some (s,c)=>match t with
    | 0=>bif sG s c4 then (match c with
     | .bx cs=>bif Nat.beq i 0 then (match part cs j n with
      | some ds=>fL ds λ ds=>Bo agg ds λ v=>K v M
      | none=>False) else False
     | .rw _ es=>FC es i j n λ ds=>fL ds λ ds=>bif LX ds then Bo agg ds λ v=>K v M else False
     | .bs _ es=>(match es[i]? with
      | some cs=>(match part cs j n with
       | some ds=>fL ds λ ds=>Bo agg ds λ v=>K v M
       | none=>False)
      | none=>False)
     | .mx rows=>bif Nat.beq j 0 then bif Nat.beq n 1 then IO rows i λ r=>match r with
      | some (z,es)=>Bo agg [.row key (i+1) z 0 es.length] λ v=>K v M
      | none=>Bo agg [.nil] λ v=>K v M else False else False
     | .hx _ _ _=>False
     | .vw _ _=>False) else False
    | i'+1=>match c,c4 with
     | .mx rows,[]=>H0 rows i' λ_ es=>FC es i j n λ ds=>fL ds λ ds=>bif LX ds then Bo agg ds λ v=>K v M else False
     | .mx rows,b::r=>bif uN (b::r) then H0 rows i' λ_ es=>FC es i j n λ ds=>fL ds λ ds=>bif LX ds then Bo agg ds λ v=>K v M else False else False
     | _,_=>False
   | none=>False
  | .db cs=>match part cs 0 n with
   | some ds=>fL ds λ ds=>bif LX ds then Bo agg ds λ v=>K v M else False
   | none=>False
  | _=>False
 | .st n x v=>stX tm M K n x v
 | .zi s n x v=>match ex tm x with
  | .ptr key 0 _ _=>(match g7 M key with
   | some (s',_)=>bif Nat.beq s' s then stX tm M K n x v else False
   | none=>False)
  | _=>False
 | .v7 f xs=>xG tm xs λ vs=>bif vs.all dq then BD L f (vs.map Hk) λ r=>GT r λ r=>K r M else False
 | .mk s z bytes zero l c=>match ex tm l,ex tm c with
  | .int _ a,.int _ b=>bif Nat.beq zero.length z then bif LX zero then match zero with
   | [.nil]=>bif OM s then J9 a b bytes λ rows n=>RP s tm M λ k=>K (.row k 0 z 0 n) ((k,s,.mx rows)::M) else False
   | zero=>bif OM s then (HI a b bytes zero λ es n=>RP s tm M λ k=>K (.row k 0 z 0 n) ((k,s,.rw z es)::M)) else False else False else False
  | _,_=>False
 | .kv z x lo hi=>obX tm lo λ lo=>obX tm hi λ hi=>match ex tm x with
  | .sl l es=>H4 z es lo hi λ es=>K (.sl l es) M
  | .row key t z' off len=>bif Nat.beq z' z then HH lo hi len λ a h=>K (.row key t z (off+a) (h-a)) M else False
  | .nil=>(match lo,hi with
   | none,none=>K .nil M
   | some a,none=>D8 (a=0) (K .nil M)
   | none,some h=>D8 (h=0) (K .nil M)
   | some a,some h=>D8 (a=0/\h=0) (K .nil M))
  | _=>False
 | .ext x i=>match ex tm x with
  | .j5 vs=>f2 (Kc vs i) λ v=>K v M
  | _=>False
 | .len x=>match ex tm x with
  | .sl _ es=>C8 es λ n=>K (.int .i64 (n:Int)) M
  | .nil=>K (.int .i64 0) M
  | .row _ _ _ _ n=>K (.int .i64 (n:Int)) M
  | _=>False
 | .mm mx xs=>match rP tm xs with
  | .int k a::r=>uK mx k (λ v=>K v M) a r
  | _=>False
 | .app s z bytes x y=>bif Nat.ble 800000 s then False else (
  match tH M (ex tm y) with
  | some (ky,some (k2,z2,n2))=>match ex tm x with
   | .row key 0 z' off len=>bif Nat.beq off 0 then bif Nat.beq z' 1 then bif Nat.beq z 1 then bif Nat.beq key k2 then False else bif Nat.beq key ky then False else bif Nat.beq k2 ky then False else (match g7 M k2 with
    | some (_,.rw z3 es)=>bif Nat.beq z2 z3 then (match g7 M key with
     | some (s',.mx rows)=>fM (bg key (bg k2 (bg ky M))) λ M'=>D8 (n2=es.length) (GV rows len (some (z2,es)) bytes λ ml n=>RP s tm M λ k=>K (.row k 0 z 0 n) ((k,s',.mx ml)::M'))
     | _=>False) else False
    | _=>False) else False else False else False
   | .nil=>bif OM s then bif Nat.beq z 1 then (match g7 M k2 with
    | some (_,.rw z3 es)=>bif Nat.beq z2 z3 then fM (bg k2 M) λ M'=>D8 (n2=es.length/\bytes<=140737488355328) (RP s tm M λ k=>K (.row k 0 z 0 1) ((k,s,.mx [some (z2,es)])::M')) else False
    | _=>False) else False else False
   | _=>False
  | some (ky,none)=>match ex tm x with
   | .row key 0 z' off len=>bif Nat.beq off 0 then bif Nat.beq z' 1 then bif Nat.beq z 1 then bif Nat.beq key ky then False else (match g7 M key with
     | some (s',.mx rows)=>fM (bg key M) λ M'=>GV rows len none bytes λ ml n=>RP s tm M λ k=>K (.row k 0 z 0 n) ((k,s',.mx ml)::M')
     | _=>False) else False else False else False
   | .nil=>bif OM s then bif Nat.beq z 1 then D8 (bytes<=140737488355328) (RP s tm M λ k=>K (.row k 0 z 0 1) ((k,s,.mx [none])::M)) else False else False
   | _=>False
  | none=>elX M (ex tm y) λ ys=>match ex tm x with
   | .row key 0 z' off len=>bif Nat.beq off 0 then bif Nat.beq z' z then (match g7 M key with
    | some (s',.rw ow es)=>bif Nat.beq ow z then fM (bg key M) λ M'=>(F9 es len ys z bytes λ es' n=>RP s tm M λ k=>K (.row k 0 z 0 n) ((k,s',.rw z es')::M')) else False
    | _=>False) else False else False
   | .row key (i+1) z' off len=>bif Nat.beq off 0 then bif Nat.beq z' z then (match g7 M key with
    | some (sk,.mx rows)=>fM (bg key M) λ M'=>H0 rows i λ ow es=>bif Nat.beq ow z then (F9 es len ys z bytes λ es' n => ∀ s' v,RP s tm M λ k=>K (.row k 0 z 0 n) ((k,s',.rw z es')::(key,sk,.hx i v (rows.set i none))::M')) else False
    | _=>False) else False else False
   | .nil=>bif OM s then IA ys z bytes λ es n=>RP s tm M λ k=>K (.row k 0 z 0 n) ((k,s,.rw z es)::M) else False
   | _=>False)
 | .call f xs=>Zy tm M c4 xs λ vs=>BD L f vs λ r=>K r M
 | .j6 f xs=>xG tm xs λ vs=>EU L f vs tm M K
 | .ay s f xs=>bif OM s then AgO tm M c4 xs λ vs=>JW L f vs λ z es n=>RP s tm M λ k=>K (.row k 0 z 0 n) ((k,s,.rw z es)::M) else False
 | .Cq ne x=>match ex tm x with
  | .nil=>fB (xor true ne) λ c=>K (.bool c) M
  | .gx (.bool b)=>fB (xor b ne) λ c=>K (.bool c) M
  | .sl _ es=>D8 (es≠[]) (fB (xor false ne) λ c=>K (.bool c) M)
  | .row _ _ _ _ n=>D8 (0<n) (fB (xor false ne) λ c=>K (.bool c) M)
  | _=>False
 | .bad=>False
 | .iy s f xs=>xG tm xs λ vs=>match vs with
  | .ptr key 0 0 0::rest=>bif Ab6 rest then Apu L s f key rest M K else False
  | _=>False
 | .nw tb x=>match ex tm x with
  | .int _ n=>tG tb n λ v=>K (.int .u8 v) M
  | _=>False
 | .zh p f xs=>oaX tm xs λ cs=>K (.fn (p&&cs.isEmpty) f (L.num f) cs) M
 | .w5 x xs=>match ex tm x with
  | .fn true f g []=>D8 (g=L.num f) (Zy tm M [] xs λ vs=>BD L f vs λ r=>K r M)
  | .fn true f g (c::cs)=>D8 (g=L.num f) (qR true M [] (.agg (c::cs)) λ v=>Zy tm M [] xs λ vs=>BD L f (v::vs) λ r=>K r M)
  | .fn false f g cs=>bif Sl cs then D8 (g=L.num f) (xG tm xs λ vs=>fL (vs++cs) λ vs=>EU L f vs tm M K) else False
  | _=>False
def Qr (key:Nat):Tm->Tm
 | []=>[]
 | (j,v)::r=>bif rF key v then (j,.any)::Qr key r else (j,v)::Qr key r
def xk (v:AV) (tm:Tm) (K:Tm->Prop):Prop:=match v with
 | .row key (_+1) _ _ _=>fT (Qr key tm) K
 | _=>K tm
noncomputable def XI (L:Lib) (o:AI) (ih:(Tm->Mem->Prop)->Tm->Mem->Prop) (K:Tm->Mem->Prop) (tm:Tm) (M:Mem):Prop:=match o with
 | ⟨some d,.app s z b x y,none,c4⟩=>XE L tm M c4 (λ v M=>xk (ex tm x) tm λ tm=>ih K ((d,v)::tm) M) (.app s z b x y)
 | ⟨some d,op,none,c4⟩=>XE L tm M c4 (λ v M=>ih K ((d,v)::tm) M) op
 | ⟨none,op,none,c4⟩=>XE L tm M c4 (λ_ M=>ih K tm M) op
 | ⟨dst,op,some (g,w),c4⟩=>match tg tm g with
  | .bool b=>fB (b == w) λ c=>match c,dst with
   | true,some d=>XE L tm M c4 (λ v M=>ih K ((d,v)::tm) M) op
   | true,none=>XE L tm M c4 (λ_ M=>ih K tm M) op
   | false,some d=>ih K ((d,.j5 [])::tm) M
   | false,none=>ih K tm M
  | .j5 []=>match dst with
   | some d=>ih K ((d,.j5 [])::tm) M
   | none=>ih K tm M
  | _=>False
noncomputable def XO (L:Lib) (l:List AI):(Tm->Mem->Prop)->Tm->Mem->Prop :=
 List.rec (motive:=λ_=>(Tm->Mem->Prop)->Tm->Mem->Prop) (λ K tm M=>K tm M) (λ o _ ih K tm M=>XI L o ih K tm M) l
noncomputable def XS (L:Lib) (Q:Tm->Mem->Prop) (ih:List It->Tm->Mem->Prop) (k:List It) (tm:Tm) (M:Mem):Prop:=match k with
 | []=>Q tm M
 | it::k=>match it with
  | .k8 _=>ih k tm M
  | .yd ts ss=>fN (mask 0 ts) λ m=>fT (Gp m tm) λ tm=>match ss with
   | []=>ih k tm M
   | _::_=>False
  | .lp c=>A0 L (.lp c::k) tm M Q
  | .code c=>match c with
   | .skip=>ih k tm M
   | .ops l _=>XO L l (λ tm M=>ih k tm M) tm M
   | .dr c ts ss=>ih (.code c :: .yd ts ss::k) tm M
   | .scope c=>ih (.code c::k) tm M
   | .seq a b=>ih (.code a :: .code b::k) tm M
   | .cond x a b=>match ex tm x with
    | .bool b'=>fB b' λ c=>match c with
     | true=>ih (.code a::k) tm M
     | false=>ih (.code b::k) tm M
    | _=>False
   | .block id c=>ih (.code c :: .k8 id::k) tm M
   | .loop c=>A0 L (.lp c::k) tm M Q
   | .exit id=>match OH id k with
    | some k'=>ih k' tm M
    | none=>False
   | .ret=>Q tm M
noncomputable def XK (L:Lib) (Q:Tm->Mem->Prop) (n:Nat):List It->Tm->Mem->Prop :=
 Nat.rec (motive:=λ_=>List It->Tm->Mem->Prop) (λ k tm M=>A0 L k tm M Q) (λ_ ih k tm M=>XS L Q ih k tm M) n
def Tf (tm:Tm) (M:Mem) (r:aG) (K:AV->Prop):Prop:=match r with
 | .tmp t=>f2 (tg tm t) K
 | .cell t agg n=>match tg tm t with
  | .ptr key 0 i j=>match g7 M key with
   | some (_,.bx cs)=>bif Nat.beq i 0 then (match part cs j n with
    | some ds=>fL ds λ ds=>Bo agg ds K
    | none=>False) else False
   | _=>False
  | _=>False
noncomputable def Acz (tm:Tm) (M:Mem) (l:List aG):(List AV->Prop)->Prop :=
 List.rec (motive:=λ_=>(List AV->Prop)->Prop) (λ K=>K []) (λ x _ ih K=>Tf tm M x λ v=>ih λ vs=>K (v::vs)) l
noncomputable def AgI (q:Bool) (M:Mem) (l:List AV):(List AV->Prop)->Prop :=
 List.rec (motive:=λ_=>(List AV->Prop)->Prop) (λ K=>K []) (λ x _ ih K=>qR q M [] x λ v=>ih λ vs=>K (v::vs)) l
def rsv (vs:List AV) (K:AV->Prop):Prop:=match vs with
 | [v]=>K v
 | vs=>K (.j5 vs)
def B9 (a r:AV):Prop:=a=r/\EA r
noncomputable def pK (fn:AFn) (r:AV) (tm:Tm) (M:Mem):Prop:=Acz tm M fn.res λ vs=>AgI false M vs λ vs=>rsv vs λ v=>B9 v r
end Go.c9
